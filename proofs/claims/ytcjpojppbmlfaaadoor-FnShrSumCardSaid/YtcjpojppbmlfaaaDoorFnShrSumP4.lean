/- A part of what the claim of 'FnShrSum' leans on. -/
import Derived.Test.YtcjpojppbmlfaaaDoorFnShrSumP0
import Derived.Test.YtcjpojppbmlfaaaDoorFnShrSumP3
namespace Go.Proofs.YtcjpojppbmlfaaaDoor.Pr
open Go.RowKit Go.Proofs.YtcjpojppbmlfaaaDoorW.PrintWords Go.Proofs.YtcjpojppbmlfaaaDoorW.PrintLast Go.Proofs.YtcjpojppbmlfaaaDoorW.PrintMore
attribute [local go_sem] max2_int min2_int max_two min_two max_three min_three max_four min_four
set_option linter.unusedVariables false
set_option linter.unusedSimpArgs false
mutual
def spec_l4Share.j1 : Nat → Int → List Int → Option (List Int)
  | 0, _, _ => none
  | k + 1, x0, x5 => (spec_l1Sum.f k x5).bind fun t212 => (if 0 ≤ (x5.length : Int) then (if ((x5.length : Int) : Int).toNat ≤ 281474976710656 then (spec_l4Share.l1 k x0 x5 t212 (([] : List Int)) (([] : List Int)) (List.replicate ((x5.length : Int) : Int).toNat false) 0) else (none)) else (none))
def spec_l4Share.l1 : Nat → Int → List Int → Int → List Int → List Int → List Bool → Int → Option (List Int)
  | 0, _, _, _, _, _, _, _ => none
  | k + 1, x0, x5, x7, x8, x9, x10, x11 => if x11 < (x5.length : Int) then (if 0 ≤ x11 then (if x7 = 0 then (none) else (if x8.length < 17592186044416 then (if x9.length < 17592186044416 then (spec_l4Share.l1 k x0 x5 x7 (x8 ++ [wrap64 (Int.tdiv (wrap64 (x0 * (rd x5 x11))) x7)]) (x9 ++ [Int.tmod (wrap64 (x0 * (rd x5 x11))) x7]) x10 (wrap64 (x11 + 1))) else (none)) else (none))) else (none)) else ((spec_l1Sum.f k x8).bind fun t230 => (spec_l4Share.l2 k x8 x9 x10 (wrap64 (x0 - t230))))
def spec_l4Share.l2 : Nat → List Int → List Int → List Bool → Int → Option (List Int)
  | 0, _, _, _, _ => none
  | k + 1, x8, x9, x10, x12 => if x12 > 0 then (spec_l4Share.j4 k x8 x9 x10 x12 (decide ((x8.length : Int) > 0))) else (spec_l4Share.j4 k x8 x9 x10 x12 false)
def spec_l4Share.j4 : Nat → List Int → List Int → List Bool → Int → Bool → Option (List Int)
  | 0, _, _, _, _, _ => none
  | k + 1, x8, x9, x10, x12, x74 => if x74 = true then ((spec_l4Next.f k x9 x10).bind fun t231 => (if t231 ≥ 0 then (if 0 ≤ t231 then (if t231 < (x10.length : Int) then (if t231 < (x8.length : Int) then (spec_l4Share.l2 k (x8.set (t231 : Int).toNat (wrap64 ((rd x8 t231) + 1))) x9 (x10.set (t231 : Int).toNat true) (wrap64 (x12 - 1))) else (none)) else (none)) else (none)) else (spec_l4Share.l2 k x8 x9 x10 (wrap64 (x12 - 1))))) else (some x8)
def spec_l4Share.l0 : Nat → Int → List Int → Int → Option (List Int)
  | 0, _, _, _ => none
  | k + 1, x0, x5, x6 => if x6 < (x5.length : Int) then (if 0 ≤ x6 then (spec_l4Share.l0 k x0 (x5.set (x6 : Int).toNat 1) (wrap64 (x6 + 1))) else (none)) else (spec_l4Share.j1 k x0 x5)
end
def spec_l4Share.f (k : Nat) (a0 : Int) (l1 : List Int) : Option (List Int) := (some (([] : List Int) : List Int)).bind fun y204 => (if y204.length + l1.length < 17592186044416 then ((some (y204 ++ l1 : List Int)).bind fun y207 => ((spec_l1Sum.f k y207).bind fun t210 => (if t210 = 0 then (spec_l4Share.l0 k a0 y207 0) else (spec_l4Share.j1 k a0 y207)))) else (none))
theorem spec_l4Share.mono_l : ∀ k, (∀ y0 y1, LeO (spec_l4Share.j1 k y0 y1) (spec_l4Share.j1 (k + 1) y0 y1)) ∧ (∀ y0 y1 y2 y3 y4 y5 y6, LeO (spec_l4Share.l1 k y0 y1 y2 y3 y4 y5 y6) (spec_l4Share.l1 (k + 1) y0 y1 y2 y3 y4 y5 y6)) ∧ (∀ y0 y1 y2 y3, LeO (spec_l4Share.l2 k y0 y1 y2 y3) (spec_l4Share.l2 (k + 1) y0 y1 y2 y3)) ∧ (∀ y0 y1 y2 y3 y4, LeO (spec_l4Share.j4 k y0 y1 y2 y3 y4) (spec_l4Share.j4 (k + 1) y0 y1 y2 y3 y4)) ∧ (∀ y0 y1 y2, LeO (spec_l4Share.l0 k y0 y1 y2) (spec_l4Share.l0 (k + 1) y0 y1 y2))
  | 0 => ⟨fun _ _ r h => by simp [spec_l4Share.j1] at h, fun _ _ _ _ _ _ _ r h => by simp [spec_l4Share.l1] at h, fun _ _ _ _ r h => by simp [spec_l4Share.l2] at h, fun _ _ _ _ _ r h => by simp [spec_l4Share.j4] at h, fun _ _ _ r h => by simp [spec_l4Share.l0] at h⟩
  | k + 1 => by
    obtain ⟨ih0, ih1, ih2, ih3, ih4⟩ := spec_l4Share.mono_l k
    refine ⟨?_, ?_, ?_, ?_, ?_⟩
    · intro y0 y1
      unfold spec_l4Share.j1
      repeat' first
      | (with_reducible exact ih0 _ _)
      | (with_reducible exact ih1 _ _ _ _ _ _ _)
      | (with_reducible exact ih2 _ _ _ _)
      | (with_reducible exact ih3 _ _ _ _ _)
      | (with_reducible exact ih4 _ _ _)
      | (with_reducible exact spec_l1Sum.mono _ _)
      | (with_reducible exact spec_l4Next.mono _ _ _)
      | (with_reducible exact LeO.refl _)
      | (with_reducible exact LeO.none _)
      | (with_reducible refine LeO.ite ?_ ?_)
      | (with_reducible refine LeO.bind ?_ (fun _ => ?_))
      | exact ih0 _ _
      | exact ih1 _ _ _ _ _ _ _
      | exact ih2 _ _ _ _
      | exact ih3 _ _ _ _ _
      | exact ih4 _ _ _
      | exact spec_l1Sum.mono _ _
      | exact spec_l4Next.mono _ _ _
      | exact LeO.none _
      | refine LeO.ite ?_ ?_
      | refine LeO.bind ?_ (fun _ => ?_)
    · intro y0 y1 y2 y3 y4 y5 y6
      unfold spec_l4Share.l1
      repeat' first
      | (with_reducible exact ih0 _ _)
      | (with_reducible exact ih1 _ _ _ _ _ _ _)
      | (with_reducible exact ih2 _ _ _ _)
      | (with_reducible exact ih3 _ _ _ _ _)
      | (with_reducible exact ih4 _ _ _)
      | (with_reducible exact spec_l1Sum.mono _ _)
      | (with_reducible exact spec_l4Next.mono _ _ _)
      | (with_reducible exact LeO.refl _)
      | (with_reducible exact LeO.none _)
      | (with_reducible refine LeO.ite ?_ ?_)
      | (with_reducible refine LeO.bind ?_ (fun _ => ?_))
      | exact ih0 _ _
      | exact ih1 _ _ _ _ _ _ _
      | exact ih2 _ _ _ _
      | exact ih3 _ _ _ _ _
      | exact ih4 _ _ _
      | exact spec_l1Sum.mono _ _
      | exact spec_l4Next.mono _ _ _
      | exact LeO.none _
      | refine LeO.ite ?_ ?_
      | refine LeO.bind ?_ (fun _ => ?_)
    · intro y0 y1 y2 y3
      unfold spec_l4Share.l2
      repeat' first
      | (with_reducible exact ih0 _ _)
      | (with_reducible exact ih1 _ _ _ _ _ _ _)
      | (with_reducible exact ih2 _ _ _ _)
      | (with_reducible exact ih3 _ _ _ _ _)
      | (with_reducible exact ih4 _ _ _)
      | (with_reducible exact spec_l1Sum.mono _ _)
      | (with_reducible exact spec_l4Next.mono _ _ _)
      | (with_reducible exact LeO.refl _)
      | (with_reducible exact LeO.none _)
      | (with_reducible refine LeO.ite ?_ ?_)
      | (with_reducible refine LeO.bind ?_ (fun _ => ?_))
      | exact ih0 _ _
      | exact ih1 _ _ _ _ _ _ _
      | exact ih2 _ _ _ _
      | exact ih3 _ _ _ _ _
      | exact ih4 _ _ _
      | exact spec_l1Sum.mono _ _
      | exact spec_l4Next.mono _ _ _
      | exact LeO.none _
      | refine LeO.ite ?_ ?_
      | refine LeO.bind ?_ (fun _ => ?_)
    · intro y0 y1 y2 y3 y4
      unfold spec_l4Share.j4
      repeat' first
      | (with_reducible exact ih0 _ _)
      | (with_reducible exact ih1 _ _ _ _ _ _ _)
      | (with_reducible exact ih2 _ _ _ _)
      | (with_reducible exact ih3 _ _ _ _ _)
      | (with_reducible exact ih4 _ _ _)
      | (with_reducible exact spec_l1Sum.mono _ _)
      | (with_reducible exact spec_l4Next.mono _ _ _)
      | (with_reducible exact LeO.refl _)
      | (with_reducible exact LeO.none _)
      | (with_reducible refine LeO.ite ?_ ?_)
      | (with_reducible refine LeO.bind ?_ (fun _ => ?_))
      | exact ih0 _ _
      | exact ih1 _ _ _ _ _ _ _
      | exact ih2 _ _ _ _
      | exact ih3 _ _ _ _ _
      | exact ih4 _ _ _
      | exact spec_l1Sum.mono _ _
      | exact spec_l4Next.mono _ _ _
      | exact LeO.none _
      | refine LeO.ite ?_ ?_
      | refine LeO.bind ?_ (fun _ => ?_)
    · intro y0 y1 y2
      unfold spec_l4Share.l0
      repeat' first
      | (with_reducible exact ih0 _ _)
      | (with_reducible exact ih1 _ _ _ _ _ _ _)
      | (with_reducible exact ih2 _ _ _ _)
      | (with_reducible exact ih3 _ _ _ _ _)
      | (with_reducible exact ih4 _ _ _)
      | (with_reducible exact spec_l1Sum.mono _ _)
      | (with_reducible exact spec_l4Next.mono _ _ _)
      | (with_reducible exact LeO.refl _)
      | (with_reducible exact LeO.none _)
      | (with_reducible refine LeO.ite ?_ ?_)
      | (with_reducible refine LeO.bind ?_ (fun _ => ?_))
      | exact ih0 _ _
      | exact ih1 _ _ _ _ _ _ _
      | exact ih2 _ _ _ _
      | exact ih3 _ _ _ _ _
      | exact ih4 _ _ _
      | exact spec_l1Sum.mono _ _
      | exact spec_l4Next.mono _ _ _
      | exact LeO.none _
      | refine LeO.ite ?_ ?_
      | refine LeO.bind ?_ (fun _ => ?_)
theorem spec_l4Share.mono : ∀ a0 a1 k, LeO (spec_l4Share.f k a0 a1) (spec_l4Share.f (k + 1) a0 a1) := by
  intro a0 a1 k
  obtain ⟨ih0, ih1, ih2, ih3, ih4⟩ := spec_l4Share.mono_l k
  unfold spec_l4Share.f
  repeat' first
      | (with_reducible exact ih0 _ _)
      | (with_reducible exact ih1 _ _ _ _ _ _ _)
      | (with_reducible exact ih2 _ _ _ _)
      | (with_reducible exact ih3 _ _ _ _ _)
      | (with_reducible exact ih4 _ _ _)
      | (with_reducible exact spec_l1Sum.mono _ _)
      | (with_reducible exact spec_l4Next.mono _ _ _)
      | (with_reducible exact LeO.refl _)
      | (with_reducible exact LeO.none _)
      | (with_reducible refine LeO.ite ?_ ?_)
      | (with_reducible refine LeO.bind ?_ (fun _ => ?_))
      | exact ih0 _ _
      | exact ih1 _ _ _ _ _ _ _
      | exact ih2 _ _ _ _
      | exact ih3 _ _ _ _ _
      | exact ih4 _ _ _
      | exact spec_l1Sum.mono _ _
      | exact spec_l4Next.mono _ _ _
      | exact LeO.none _
      | refine LeO.ite ?_ ?_
      | refine LeO.bind ?_ (fun _ => ?_)
set_option maxHeartbeats 8000000 in
set_option maxRecDepth 100000 in
theorem spec_l4Share.calls (k : Nat) (a0 : Int) (A1 : Option Addr) (c1 : Nat) (l1 : List Int) (r : List Int) (w : World) (hr1 : Kd.C (Kd.int .i64) w A1 l1.length l1) (hc1 : l1.length ≤ c1) (h : spec_l4Share.f k a0 l1 = some r) :
    Calls Tryd.prog 49 #[.int .i64 a0, .slice A1 l1.length c1] w fun e w' => ∃ v0_ : Value, e = .returned (v0_) ∧ Kd.R (Kd.int .i64) 3 w' w.heap.size (fun _ => True) v0_ r ∧ Below w.heap.size w w' := by
  have HR1 := Aside0.mk hr1
  have HC1 := Aside0.mk hc1
  clear hr1 hc1
  have HB := Aside0.mk (Below.refl w.heap.size w)
  have H : ((some (([] : List Int) : List Int)).bind fun y204 => (if y204.length + l1.length < 17592186044416 then ((some (y204 ++ l1 : List Int)).bind fun y207 => ((spec_l1Sum.f k y207).bind fun t210 => (if t210 = 0 then (spec_l4Share.l0 k a0 y207 0) else (spec_l4Share.j1 k a0 y207)))) else (none))) = some r := h
  clear h
  obtain ⟨y204, hy204⟩ : ∃ y_ : List Int, y_ = (([] : List Int)) := ⟨_, rfl⟩
  replace H : (if y204.length + l1.length < 17592186044416 then ((some (y204 ++ l1 : List Int)).bind fun y207 => ((spec_l1Sum.f k y207).bind fun t210 => (if t210 = 0 then (spec_l4Share.l0 k a0 y207 0) else (spec_l4Share.j1 k a0 y207)))) else (none)) = some r := by first | (rw [hy204]; with_reducible exact H) | (have H2_ := (Option.bind_some _ _).symm.trans H; rw [hy204]; with_reducible exact H2_) | (have H2_ := (Option.bind_some _ _).symm.trans H; with_reducible exact H2_) | with_reducible exact H | (rw [hy204]; exact H) | exact H
  have Ny204 := Aside0.mk hy204
  clear hy204
  by_cases c3 : y204.length + l1.length < 17592186044416
  · rw [if_pos c3] at H
    have LMc3 := Aside0.mk c3
    clear c3
    obtain ⟨y207, hy207⟩ : ∃ y_ : List Int, y_ = (y204 ++ l1) := ⟨_, rfl⟩
    replace H : ((spec_l1Sum.f k y207).bind fun t210 => (if t210 = 0 then (spec_l4Share.l0 k a0 y207 0) else (spec_l4Share.j1 k a0 y207))) = some r := by first | (rw [hy207]; with_reducible exact H) | (have H2_ := (Option.bind_some _ _).symm.trans H; rw [hy207]; with_reducible exact H2_) | (have H2_ := (Option.bind_some _ _).symm.trans H; with_reducible exact H2_) | with_reducible exact H | (rw [hy207]; exact H) | exact H
    have Ny207 := Aside0.mk hy207
    clear hy207
    replace H := Option.bind_eq_some_iff.mp H
    obtain ⟨t210, A40, H⟩ := H
    replace H : (if t210 = 0 then (spec_l4Share.l0 k a0 y207 0) else (spec_l4Share.j1 k a0 y207)) = some r := H
    have A4 := Aside0.mk A40
    clear A40
    have HC5 := Aside0.mk H
    clear H
    go_enter Tryd.func49, Tryd.ntmps49
    go_upto_if 19 with (first | ((with_reducible refine gate_dst (N := 14) rfl ?_); (try (refine gate_guard (by rfl) ?_; dsimp only)); refine Kd.R_lit (Kd.int .i64) _ 3 ?hg (N := 14) ?hd (xs := ([] : List Int)) (inner := []) (ok := fun _ => True) (okp := fun _ => True) ?hr ?hp (fun _ hk => hk) trivial (Below.refl _ _) (Nat.le_refl _) (by simp) ?_; (case hd => rfl); (case hg => rfl); (case hr => first | (go_simp; done) | (go_simp; rfl)); (case hp => exact (Reps.none _ _)); intro v205 w6 ho7 hb hg_ hnew_; clear hg_ hnew_; (first | rw [← Ny204.out] at ho7 | (simp only [Int.reduceToNat] at ho7; rw [← Ny204.out] at ho7)); have n0_ := Aside0.mk (Kd.R_lower ho7 (below_size (by repeat (first | (with_reducible first | exact HB.out | apply below_alloc | apply pw_below_drewN | apply below_drew1) | exact HB.out)))); have n1_ := Aside0.mk (below_step (by repeat (first | (with_reducible first | exact HB.out | apply below_alloc | apply pw_below_drewN | apply below_drew1) | exact HB.out)) hb); clear HB; have HO206 := n0_; have HB := n1_; clear n0_ n1_; clear hb ho7) | ((with_reducible refine gate_builtin (b := .append) (xs := #[.tmp 14, .tmp 15]) rfl ?_); (try (refine gate_guard (by rfl) ?_; dsimp only)); at_builtin; refine Kd.R_append_rows (Kd.int .i64) (w0 := w) w.heap.size rfl (.tmp 14) (.tmp 15) 23 3 (.int .i64 0) 8 rfl Tryd.underlying23 info3 rfl (by decide) (by omega) v205 y204 l1 _ _ _ (fun _ => True) (fun _ => False) rfl rfl ?aO ?aR (fun _ _ h => h) (fun _ h => h.elim) ?aF ?aB ?aS ?aL ?_; (case aR => repeat (first | exact (Kd.C_below HR1.out HB.out) | (with_reducible refine Kd.C_alloc ?_ _) | (with_reducible refine Kd.C_drewN ?_ _) | (with_reducible refine Kd.C_drew ?_))); (case aB => exact (by repeat (first | (with_reducible first | exact HB.out | apply below_alloc | apply pw_below_drewN | apply below_drew1) | exact HB.out))); (case aF => exact (fun _ _ => trivial)); (case aO => exact (by (with_reducible repeat (first | apply Kd.R_alloc | apply Kd.R_drewN | apply Kd.R_drew)); exact HO206.out)); (case aS => exact (below_size (by repeat (first | (with_reducible first | exact HB.out | apply below_alloc | apply pw_below_drewN | apply below_drew1) | exact HB.out)))); (case aL => have := LMc3.out; omega); intro v208 w8 ho hb hg hat; rw [← Ny207.out] at ho; have n0_ := Aside0.mk (hb); have n1_ := Aside0.mk (ho); clear HB; clear HO206; have HB := n0_; have HO209 := n1_; clear n0_ n1_; clear ho hb hg hat; obtain ⟨Ao9, co9, eo9⟩ := Kd.R_slice HO209.out; subst eo9) | ((with_reducible refine gate_callee (f := 54) rfl ?_); refine goesL_ (some 18) rfl rfl Tryd.func54 (by kernel_rfl) rfl #[.slice Ao9 y207.length co9] rfl (by (try simp only [List.map_toArray, List.map_cons, List.map_nil]); first | done | rfl | (simp only [List.length_drop, List.length_take]; rfl)) ?_; (with_reducible refine (spec_l1Sum.calls k _ _ y207 t210 _ ?side1 ?side2 A4.out).mono ?_); (case side1 => repeat (first | exact (Kd.R_reads' HO209.out).2.2 | (with_reducible refine Kd.C_alloc ?_ _) | (with_reducible refine Kd.C_drewN ?_ _) | (with_reducible refine Kd.C_drew ?_))); (case side2 => exact (Kd.R_reads' HO209.out).2.1); rintro e w' ⟨rfl, ⟨nd, rfl⟩⟩; refine ⟨_, rfl, ?_⟩))
    (try simp only [Act.put, List.setIfInBounds_toArray, List.set_cons_zero, List.set_cons_succ])
    go_cut [] (fun wc => ∃ (kq : Nat) (x5_4 : List Int), Aside0 (spec_l4Share.j1 kq a0 x5_4 = some r) ∧ Aside0 (kq ≤ k) ∧ Aside0 (Kd.R (Kd.int .i64) 3 wc w.heap.size (fun _ => True) (.slice Ao9 y207.length co9) x5_4) ∧ Aside0 (Below w.heap.size w wc))
    case first =>
      have H := HC5.out
      clear HC5
      by_cases c10 : t210 = 0
      · rw [if_pos c10] at H
        have c10b0 : (t210 == 0) = true := beq_iff_eq.mpr c10
        have c10b1 : (t210 != 0) = false := bne_eq_false_iff_eq.mpr c10
        clear c10
        (first | rw [c10b0] | (simp only [i64_w, i32_w]; rw [c10b0]) | skip)
        have H' := Aside0.mk H
        clear H
        go_wp2
        go_loopg [6] k (fun kq v6 w' => ∃ (x5_1 : List Int) (x6_1 : Int), v6 = .int .i64 x6_1 ∧ Aside0 (spec_l4Share.l0 kq a0 x5_1 x6_1 = some r) ∧ Aside0 (kq ≤ k) ∧ Aside0 (Kd.R (Kd.int .i64) 3 w' w.heap.size (fun _ => True) (.slice Ao9 y207.length co9) x5_1) ∧ Aside0 (Below w.heap.size w w'))
        case atStart => exact ⟨(y207), (0), (by first | rfl | (simp; done) | (simp [*]; done)), H', ⟨Nat.le_refl _⟩, ⟨by (with_reducible repeat (first | apply Kd.R_alloc | apply Kd.R_drewN | apply Kd.R_drew)); exact HO209.out⟩, ⟨by repeat (first | (with_reducible first | exact HB.out | apply below_alloc | apply pw_below_drewN | apply below_drew1) | exact HB.out)⟩⟩
        case round =>
          clear H'
          try clear c1
          try clear p2
          try clear c3
          try clear c4
          try clear c5
          try clear c10
          try clear c10b0
          try clear c10b1
          obtain ⟨x5_1, x6_1, rfl, HA, HK1, HO_5, HB⟩ := hrel
          have hl5_1 := (Kd.R_reads' HO_5.out).1
          rw [hl5_1] at HO_5
          (try simp only [hl5_1])
          cases gk with
          | zero => exact absurd HA.out (by simp [spec_l4Share.l0])
          | succ k1 =>
            have H := HA.out
            clear HA
            simp only [spec_l4Share.l0] at H
            by_cases c11 : x6_1 < (x5_1.length : Int)
            · rw [if_pos c11] at H
              have c11b0 : decide (x6_1 < (x5_1.length : Int)) = true := decide_eq_true c11
              clear c11
              by_cases c12 : 0 ≤ x6_1
              · rw [if_pos c12] at H
                have c12b0 : decide (0 ≤ x6_1) = true := decide_eq_true c12
                clear c12
                obtain ⟨y211, hy211⟩ : ∃ y_ : List Int, y_ = (x5_1.set (x6_1 : Int).toNat 1) := ⟨_, rfl⟩
                replace H : (spec_l4Share.l0 k1 a0 y211 (wrap64 (x6_1 + 1))) = some r := by first | (rw [hy211]; with_reducible exact H) | (have H2_ := (Option.bind_some _ _).symm.trans H; rw [hy211]; with_reducible exact H2_) | (have H2_ := (Option.bind_some _ _).symm.trans H; with_reducible exact H2_) | with_reducible exact H | (rw [hy211]; exact H) | exact H
                have Ny211 := Aside0.mk hy211
                clear hy211
                have H' := Aside0.mk H
                clear H
                have p13 : 0 ≤ (x6_1 : Int) := of_decide_eq_true (by first | (with_reducible assumption) | assumption)
                have q13 : (x6_1 : Int) < ((x5_1.length : Int) : Int) := of_decide_eq_true (by first | (with_reducible assumption) | assumption)
                obtain ⟨go13, co13, eo13, gb13, gl13, cl13, HG13⟩ := Kd.R_form HO_5.out (by omega)
                (first | cases eo13 | (injection eo13 with ea_ en_ ec_; (first | subst ea_ | (injection ea_ with ea_; subst ea_)); subst ec_; clear en_))
                have GB13 := Aside0.mk gb13
                have GG13 := Aside0.mk HG13
                clear gb13 gl13 HG13
                obtain ⟨hx13_0, hf13_0⟩ := Kd.R_celln 0 HO_5.out (x6_1 : Int) p13 q13
                replace p13 := eq_true p13
                replace q13 := eq_true q13
                have HP14 := Kd.R_putg HO_5.out (x6_1 : Int) 1
                go_wp2_with (first | ((with_reducible refine gate_store (t := 3) (p := 28) rfl ?_); refine store_event (t := 3) (p := 28) (v := ?vo_w15) (w1 := (wr.setCell ⟨go13, (x6_1 : Int).toNat, none⟩ (.int .i64 1))) ?hg ?ho ?hn ?hr ?_; (case ho => rfl); (case hg => rfl); (case hn => rfl); (case hr => first | (go_simp; done) | (go_simp; rfl)); intro w15 hw; have hg : wr.grownBy w15 (some go13) := (by rw [hw]; exact HP14.2); have hp_ : Kd.R (Kd.int .i64) 3 w15 w.heap.size (fun _ => True) (.slice (some ⟨go13, 0, none⟩) x5_1.length co9) y211 := (by rw [hw, Ny211.out]; exact HP14.1); clear HP14; have n0_ := Aside0.mk (hp_); have n1_ := Aside0.mk ((by rw [hw]; exact below_set (HB.out) GB13.out : Below w.heap.size w w15)); clear HO_5; clear HB; have HO_5 := n0_; have HB := n1_; clear n0_ n1_; clear hg hw hp_))
                (try simp only [← hl5_1])
                go_roundg k1
                case measure => have := HK1.out; omega
                case rel => exact ⟨(y211), (wrap64 (x6_1 + 1)), (by first | rfl | (simp; done) | (simp [*]; done)), H', ⟨by have := HK1.out; omega⟩, ⟨by (try simp only [hl5_1]); (with_reducible repeat (first | apply Kd.R_alloc | apply Kd.R_drewN | apply Kd.R_drew)); exact HO_5.out⟩, ⟨by repeat (first | (with_reducible first | exact HB.out | apply below_alloc | apply pw_below_drewN | apply below_drew1) | exact HB.out)⟩⟩
              · rw [if_neg c12] at H
                exact absurd H (by simp)
            · rw [if_neg c11] at H
              have c11b0 : decide (x6_1 < (x5_1.length : Int)) = false := decide_eq_false c11
              clear c11
              have H' := Aside0.mk H
              clear H
              go_wp2
              (try simp only [← hl5_1])
              go_meet
              case rel => exact ⟨_, (x5_1), H', ⟨by have := HK1.out; first | omega | exact Nat.le_refl _⟩, ⟨by (try simp only [hl5_1]); (with_reducible repeat (first | apply Kd.R_alloc | apply Kd.R_drewN | apply Kd.R_drew)); exact HO_5.out⟩, ⟨by repeat (first | (with_reducible first | exact HB.out | apply below_alloc | apply pw_below_drewN | apply below_drew1) | exact HB.out)⟩⟩
      · rw [if_neg c10] at H
        have c10b0 : (t210 == 0) = false := beq_eq_false_iff_ne.mpr c10
        have c10b1 : (t210 != 0) = true := bne_iff_ne.mpr c10
        (first | rw [c10b0] | (simp only [i64_w, i32_w]; rw [c10b0]) | skip)
        have H' := Aside0.mk H
        clear H
        go_wp2
        go_meet
        case rel => exact ⟨_, (y207), H', ⟨by first | omega | exact Nat.le_refl _⟩, ⟨by (with_reducible repeat (first | apply Kd.R_alloc | apply Kd.R_drewN | apply Kd.R_drew)); exact HO209.out⟩, ⟨by repeat (first | (with_reducible first | exact HB.out | apply below_alloc | apply pw_below_drewN | apply below_drew1) | exact HB.out)⟩⟩
    case rest =>
      clear HC5
      try clear c1
      try clear p1
      try clear q1
      try clear hx1
      try clear p2
      try clear c3
      try clear c4
      try clear c5
      try clear p6
      try clear c10
      try clear c10b0
      try clear c10b1
      try clear c11
      try clear c11b0
      try clear c12
      try clear c12b0
      try clear p13
      try clear q13
      try clear hx13
      try clear hf13
      try clear hx13_0
      try clear p13
      try clear p2
      try clear q13
      obtain ⟨kq, x5_4, HA, HJ4, HO_5, HB⟩ := hcut
      have hl5_4 := (Kd.R_reads' HO_5.out).1
      rw [hl5_4] at HO_5
      (try simp only [hl5_4])
      cases kq with
      | zero => exact absurd HA.out (by simp [spec_l4Share.j1])
      | succ kj4 =>
        have H := HA.out
        clear HA
        simp only [spec_l4Share.j1] at H
        replace H := Option.bind_eq_some_iff.mp H
        obtain ⟨t212, A160, H⟩ := H
        replace H : (if 0 ≤ (x5_4.length : Int) then (if ((x5_4.length : Int) : Int).toNat ≤ 281474976710656 then (spec_l4Share.l1 kj4 a0 x5_4 t212 (([] : List Int)) (([] : List Int)) (List.replicate ((x5_4.length : Int) : Int).toNat false) 0) else (none)) else (none)) = some r := H
        have A16 := Aside0.mk A160
        clear A160
        obtain ⟨y213, hy213⟩ : ∃ y_ : List Int, y_ = (([] : List Int)) := ⟨_, rfl⟩
        replace H : (if 0 ≤ (x5_4.length : Int) then (if ((x5_4.length : Int) : Int).toNat ≤ 281474976710656 then (spec_l4Share.l1 kj4 a0 x5_4 t212 y213 (([] : List Int)) (List.replicate ((x5_4.length : Int) : Int).toNat false) 0) else (none)) else (none)) = some r := by first | (rw [hy213]; with_reducible exact H) | (have H2_ := (Option.bind_some _ _).symm.trans H; rw [hy213]; with_reducible exact H2_) | (have H2_ := (Option.bind_some _ _).symm.trans H; with_reducible exact H2_) | with_reducible exact H | (rw [hy213]; exact H) | exact H
        have Ny213 := Aside0.mk hy213
        clear hy213
        obtain ⟨y216, hy216⟩ : ∃ y_ : List Int, y_ = (([] : List Int)) := ⟨_, rfl⟩
        replace H : (if 0 ≤ (x5_4.length : Int) then (if ((x5_4.length : Int) : Int).toNat ≤ 281474976710656 then (spec_l4Share.l1 kj4 a0 x5_4 t212 y213 y216 (List.replicate ((x5_4.length : Int) : Int).toNat false) 0) else (none)) else (none)) = some r := by first | (rw [hy216]; with_reducible exact H) | (have H2_ := (Option.bind_some _ _).symm.trans H; rw [hy216]; with_reducible exact H2_) | (have H2_ := (Option.bind_some _ _).symm.trans H; with_reducible exact H2_) | with_reducible exact H | (rw [hy216]; exact H) | exact H
        have Ny216 := Aside0.mk hy216
        clear hy216
        by_cases c17 : 0 ≤ (x5_4.length : Int)
        · rw [if_pos c17] at H
          have c17b0 := eq_true c17
          have c17b1 : decide (0 ≤ (x5_4.length : Int)) = true := decide_eq_true c17
          clear c17
          by_cases c18 : ((x5_4.length : Int) : Int).toNat ≤ 281474976710656
          · rw [if_pos c18] at H
            have c18b0 := eq_true c18
            have c18b1 : decide (((x5_4.length : Int) : Int).toNat ≤ 281474976710656) = true := decide_eq_true c18
            clear c18
            obtain ⟨y219, hy219⟩ : ∃ y_ : List Bool, y_ = (List.replicate ((x5_4.length : Int) : Int).toNat false) := ⟨_, rfl⟩
            replace H : (spec_l4Share.l1 kj4 a0 x5_4 t212 y213 y216 y219 0) = some r := by first | (rw [hy219]; with_reducible exact H) | (have H2_ := (Option.bind_some _ _).symm.trans H; rw [hy219]; with_reducible exact H2_) | (have H2_ := (Option.bind_some _ _).symm.trans H; with_reducible exact H2_) | with_reducible exact H | (rw [hy219]; exact H) | exact H
            have Ny219 := Aside0.mk hy219
            clear hy219
            have H' := Aside0.mk H
            clear H
            go_wp2_with (first | ((with_reducible refine gate_callee (f := 54) rfl ?_); refine goesL_ (some 30) rfl rfl Tryd.func54 (by kernel_rfl) rfl #[.slice Ao9 x5_4.length co9] rfl (by (try simp only [List.map_toArray, List.map_cons, List.map_nil]); first | done | rfl | (simp only [List.length_drop, List.length_take]; rfl)) ?_; (with_reducible refine (spec_l1Sum.calls kj4 _ _ x5_4 t212 _ ?side1 ?side2 A16.out).mono ?_); (case side1 => repeat (first | exact (Kd.R_reads' HO_5.out).2.2 | (with_reducible refine Kd.C_alloc ?_ _) | (with_reducible refine Kd.C_drewN ?_ _) | (with_reducible refine Kd.C_drew ?_))); (case side2 => exact (Kd.R_reads' HO_5.out).2.1); rintro e w' ⟨rfl, ⟨nd, rfl⟩⟩; refine ⟨_, rfl, ?_⟩) | ((with_reducible refine gate_dst (N := 31) rfl ?_); (try (refine gate_guard (by rfl) ?_; dsimp only)); refine Kd.R_lit (Kd.int .i64) _ 3 ?hg (N := 31) ?hd (xs := ([] : List Int)) (inner := []) (ok := fun _ => True) (okp := fun _ => True) ?hr ?hp (fun _ hk => hk) trivial (Below.refl _ _) (Nat.le_refl _) (by simp) ?_; (case hd => rfl); (case hg => rfl); (case hr => first | (go_simp; done) | (go_simp; rfl)); (case hp => exact (Reps.none _ _)); intro v214 w19 ho20 hb hg_ hnew_; clear hg_ hnew_; (first | rw [← Ny213.out] at ho20 | (simp only [Int.reduceToNat] at ho20; rw [← Ny213.out] at ho20)); have n0_ := Aside0.mk (Kd.R_elder' (by (with_reducible repeat (first | apply Kd.R_alloc | apply Kd.R_drewN | apply Kd.R_drew)); exact HO_5.out) (Kd.R_base ho20) hb); have n1_ := Aside0.mk (Kd.R_lower (Kd.R_new' ho20 (Kd.R_lt (by (with_reducible repeat (first | apply Kd.R_alloc | apply Kd.R_drewN | apply Kd.R_drew)); exact HO_5.out))) (below_size (by repeat (first | (with_reducible first | exact HB.out | apply below_alloc | apply pw_below_drewN | apply below_drew1) | exact HB.out)))); have n2_ := Aside0.mk (below_step (by repeat (first | (with_reducible first | exact HB.out | apply below_alloc | apply pw_below_drewN | apply below_drew1) | exact HB.out)) hb); clear HO_5; clear HB; have HO_5 := n0_; have HO215 := n1_; have HB := n2_; clear n0_ n1_ n2_; clear hb ho20) | ((with_reducible refine gate_dst (N := 32) rfl ?_); (try (refine gate_guard (by rfl) ?_; dsimp only)); refine Kd.R_lit (Kd.int .i64) _ 3 ?hg (N := 32) ?hd (xs := ([] : List Int)) (inner := []) (ok := fun _ => True) (okp := fun _ => True) ?hr ?hp (fun _ hk => hk) trivial (Below.refl _ _) (Nat.le_refl _) (by simp) ?_; (case hd => rfl); (case hg => rfl); (case hr => first | (go_simp; done) | (go_simp; rfl)); (case hp => exact (Reps.none _ _)); intro v217 w21 ho22 hb hg_ hnew_; clear hg_ hnew_; (first | rw [← Ny216.out] at ho22 | (simp only [Int.reduceToNat] at ho22; rw [← Ny216.out] at ho22)); have n0_ := Aside0.mk (Kd.R_elder' (by (with_reducible repeat (first | apply Kd.R_alloc | apply Kd.R_drewN | apply Kd.R_drew)); exact HO_5.out) (Kd.R_base ho22) hb); have n1_ := Aside0.mk (Kd.R_elder' (by (with_reducible repeat (first | apply Kd.R_alloc | apply Kd.R_drewN | apply Kd.R_drew)); exact HO215.out) (Kd.R_base ho22) hb); have n2_ := Aside0.mk (Kd.R_lower (Kd.R_new' (Kd.R_new' ho22 (Kd.R_lt (by (with_reducible repeat (first | apply Kd.R_alloc | apply Kd.R_drewN | apply Kd.R_drew)); exact HO_5.out))) (Kd.R_lt (by (with_reducible repeat (first | apply Kd.R_alloc | apply Kd.R_drewN | apply Kd.R_drew)); exact HO215.out))) (below_size (by repeat (first | (with_reducible first | exact HB.out | apply below_alloc | apply pw_below_drewN | apply below_drew1) | exact HB.out)))); have n3_ := Aside0.mk (below_step (by repeat (first | (with_reducible first | exact HB.out | apply below_alloc | apply pw_below_drewN | apply below_drew1) | exact HB.out)) hb); clear HO_5; clear HO215; clear HB; have HO_5 := n0_; have HO215 := n1_; have HO218 := n2_; have HB := n3_; clear n0_ n1_ n2_ n3_; clear hb ho22) | ((with_reducible refine gate_dst (N := 35) rfl ?_); (try (refine gate_guard (by rfl) ?_; dsimp only)); refine Kd.R_make Kd.bool _ 4 rfl (N := 35) rfl 64 _ _ rfl (x5_4.length : Int) rfl rfl Tryd.underlying64 (.bool false) 1 info4 rfl (by decide) (by omega) false (ok := fun _ => True) (okp := fun _ => True) rfl (fun _ hk => hk) trivial (of_decide_eq_true (by first | (with_reducible assumption) | assumption)) (Nat.le_trans (Nat.mul_le_mul_right _ (of_decide_eq_true (by first | (with_reducible assumption) | assumption) : (x5_4.length : Int).toNat ≤ 281474976710656)) (by omega)) (Below.refl _ _) (Nat.le_refl _) ?_; intro v220 w23 ho24 hb hg_ hnew_; clear hg_ hnew_; (first | rw [← Ny219.out] at ho24 | (simp only [Int.reduceToNat] at ho24; rw [← Ny219.out] at ho24)); have n0_ := Aside0.mk (Kd.R_below (by (with_reducible repeat (first | apply Kd.R_alloc | apply Kd.R_drewN | apply Kd.R_drew)); exact HO_5.out) hb); have n1_ := Aside0.mk (Kd.R_below (by (with_reducible repeat (first | apply Kd.R_alloc | apply Kd.R_drewN | apply Kd.R_drew)); exact HO215.out) hb); have n2_ := Aside0.mk (Kd.R_below (by (with_reducible repeat (first | apply Kd.R_alloc | apply Kd.R_drewN | apply Kd.R_drew)); exact HO218.out) hb); have n3_ := Aside0.mk (Kd.R_lower ho24 (below_size (by repeat (first | (with_reducible first | exact HB.out | apply below_alloc | apply pw_below_drewN | apply below_drew1) | exact HB.out)))); have n4_ := Aside0.mk (below_step (by repeat (first | (with_reducible first | exact HB.out | apply below_alloc | apply pw_below_drewN | apply below_drew1) | exact HB.out)) hb); clear HO_5; clear HO215; clear HO218; clear HB; have HO_5 := n0_; have HO215 := n1_; have HO218 := n2_; have HO221 := n3_; have HB := n4_; clear n0_ n1_ n2_ n3_ n4_; clear hb ho24))
            go_loopg [8, 9, 11] kj4 (fun kq v8 v9 v11 w' => ∃ (x8_2 : List Int) (x9_2 : List Int) (x11_2 : Int), v11 = .int .i64 x11_2 ∧ Aside0 (spec_l4Share.l1 kq a0 x5_4 t212 x8_2 x9_2 y219 x11_2 = some r) ∧ Aside0 (kq ≤ kj4) ∧ Aside0 (Kd.R (Kd.int .i64) 3 w' w.heap.size (fun k_ => some k_ ≠ (v8 : Value).ownBlock ∧ some k_ ≠ (v9 : Value).ownBlock) (.slice Ao9 x5_4.length co9) x5_4) ∧ Aside0 (Kd.R (Kd.int .i64) 3 w' w.heap.size (fun k_ => some k_ ≠ ((.slice Ao9 x5_4.length co9) : Value).ownBlock ∧ some k_ ≠ (v9 : Value).ownBlock) v8 x8_2) ∧ Aside0 (Kd.R (Kd.int .i64) 3 w' w.heap.size (fun k_ => some k_ ≠ ((.slice Ao9 x5_4.length co9) : Value).ownBlock ∧ some k_ ≠ (v8 : Value).ownBlock) v9 x9_2) ∧ Aside0 (Kd.R Kd.bool 4 w' w.heap.size (fun _ => True) v220 y219) ∧ Aside0 (Below w.heap.size w w'))
            case atStart => exact ⟨(y213), (y216), (0), (by first | rfl | (simp; done) | (simp [*]; done)), H', ⟨Nat.le_refl _⟩, ⟨by (try simp only [hl5_4]); (with_reducible repeat (first | apply Kd.R_alloc | apply Kd.R_drewN | apply Kd.R_drew)); exact Kd.R_mono HO_5.out (fun _ hk => ⟨hk.1.2, hk.2⟩)⟩, ⟨by (try simp only [hl5_4]); (with_reducible repeat (first | apply Kd.R_alloc | apply Kd.R_drewN | apply Kd.R_drew)); exact Kd.R_mono HO215.out (fun _ hk => ⟨hk.1.2, hk.2⟩)⟩, ⟨by (try simp only [hl5_4]); (with_reducible repeat (first | apply Kd.R_alloc | apply Kd.R_drewN | apply Kd.R_drew)); exact Kd.R_mono HO218.out (fun _ hk => ⟨hk.1.2, hk.2⟩)⟩, ⟨by (try simp only [hl5_4]); (with_reducible repeat (first | apply Kd.R_alloc | apply Kd.R_drewN | apply Kd.R_drew)); exact HO221.out⟩, ⟨by repeat (first | (with_reducible first | exact HB.out | apply below_alloc | apply pw_below_drewN | apply below_drew1) | exact HB.out)⟩⟩
            case round =>
              clear H'
              try clear c1
              try clear p1
              try clear q1
              try clear hx1
              try clear p2
              try clear c3
              try clear c4
              try clear c5
              try clear p6
              try clear c10
              try clear c10b0
              try clear c10b1
              try clear c11
              try clear c11b0
              try clear c12
              try clear c12b0
              try clear p13
              try clear q13
              try clear hx13
              try clear hf13
              try clear c17
              try clear c17b0
              try clear c17b1
              try clear c18
              try clear c18b0
              try clear c18b1
              try clear hx13_0
              try clear p1
              try clear p13
              try clear p2
              try clear p6
              try clear q1
              try clear q13
              obtain ⟨x8_2, x9_2, x11_2, rfl, HA, HK2, HO_5, HO_8, HO_9, HO_10, HB⟩ := hrel
              cases gk with
              | zero => exact absurd HA.out (by simp [spec_l4Share.l1])
              | succ k2 =>
                have H := HA.out
                clear HA
                simp only [spec_l4Share.l1] at H
                by_cases c25 : x11_2 < (x5_4.length : Int)
                · rw [if_pos c25] at H
                  have c25b0 : decide (x11_2 < (x5_4.length : Int)) = true := decide_eq_true c25
                  clear c25
                  by_cases c26 : 0 ≤ x11_2
                  · rw [if_pos c26] at H
                    have c26b0 : decide (0 ≤ x11_2) = true := decide_eq_true c26
                    clear c26
                    by_cases c27 : t212 = 0
                    · rw [if_pos c27] at H
                      exact absurd H (by simp)
                    · rw [if_neg c27] at H
                      have c27b0 : (t212 == 0) = false := beq_eq_false_iff_ne.mpr c27
                      have c27b1 : (t212 != 0) = true := bne_iff_ne.mpr c27
                      by_cases c28 : x8_2.length < 17592186044416
                      · rw [if_pos c28] at H
                        have LMc28 := Aside0.mk c28
                        clear c28
                        obtain ⟨y223, hy223⟩ : ∃ y_ : List Int, y_ = (x8_2 ++ [wrap64 (Int.tdiv (wrap64 (a0 * (rd x5_4 x11_2))) t212)]) := ⟨_, rfl⟩
                        replace H : (if x9_2.length < 17592186044416 then (spec_l4Share.l1 k2 a0 x5_4 t212 y223 (x9_2 ++ [Int.tmod (wrap64 (a0 * (rd x5_4 x11_2))) t212]) y219 (wrap64 (x11_2 + 1))) else (none)) = some r := by first | (rw [hy223]; with_reducible exact H) | (have H2_ := (Option.bind_some _ _).symm.trans H; rw [hy223]; with_reducible exact H2_) | (have H2_ := (Option.bind_some _ _).symm.trans H; with_reducible exact H2_) | with_reducible exact H | (rw [hy223]; exact H) | exact H
                        have Ny223 := Aside0.mk hy223
                        clear hy223
                        by_cases c29 : x9_2.length < 17592186044416
                        · rw [if_pos c29] at H
                          have LMc29 := Aside0.mk c29
                          clear c29
                          obtain ⟨y227, hy227⟩ : ∃ y_ : List Int, y_ = (x9_2 ++ [Int.tmod (wrap64 (a0 * (rd x5_4 x11_2))) t212]) := ⟨_, rfl⟩
                          replace H : (spec_l4Share.l1 k2 a0 x5_4 t212 y223 y227 y219 (wrap64 (x11_2 + 1))) = some r := by first | (rw [hy227]; with_reducible exact H) | (have H2_ := (Option.bind_some _ _).symm.trans H; rw [hy227]; with_reducible exact H2_) | (have H2_ := (Option.bind_some _ _).symm.trans H; with_reducible exact H2_) | with_reducible exact H | (rw [hy227]; exact H) | exact H
                          have Ny227 := Aside0.mk hy227
                          clear hy227
                          have H' := Aside0.mk H
                          clear H
                          have p222 : 0 ≤ (x11_2 : Int) := of_decide_eq_true (by first | (with_reducible assumption) | assumption)
                          have q222 : x11_2 < (x5_4.length : Int) := of_decide_eq_true (by first | (with_reducible assumption) | assumption)
                          obtain ⟨ad222, e222, hx222_0⟩ := Kd.at_int (Kd.R_reads' HO_5.out).2.2 x11_2 p222 q222
                          cases e222
                          replace p222 := eq_true p222
                          replace q222 := eq_true q222
                          go_wp2_with (first | ((with_reducible refine gate_builtin (b := .append) (xs := #[.tmp 42, .tmp 51]) rfl ?_); (try (refine gate_guard (by rfl) ?_; dsimp only)); at_builtin; refine Kd.R_append (Kd.int .i64) (w0 := w) w.heap.size rfl (.tmp 42) (.tmp 51) 23 3 (.int .i64 0) 8 rfl Tryd.underlying23 info3 rfl (by decide) (by omega) u8 x8_2 (wrap64 (Int.tdiv (wrap64 (a0 * (rd x5_4 x11_2))) t212)) [.int .i64 (wrap64 (Int.tdiv (wrap64 (a0 * (rd x5_4 x11_2))) t212))] (fun k_ => some k_ ≠ (.slice (some ad222) x5_4.length co9 : Value).ownBlock ∧ some k_ ≠ (u9 : Value).ownBlock) (fun _ => False) rfl rfl ?aP (fun _ hk => hk.elim) ?aF ?aO ?aB ?aS ?aL ?_; (case aP => exact rfl); (case aB => exact (by repeat (first | (with_reducible first | exact HB.out | apply below_alloc | apply pw_below_drewN | apply below_drew1) | exact HB.out))); (case aF => exact (fun k_ hk => ⟨Kd.fresh' (Kd.R_lt (by (with_reducible repeat (first | apply Kd.R_alloc | apply Kd.R_drewN | apply Kd.R_drew)); exact HO_5.out)) k_ hk, Kd.fresh' (Kd.R_lt (by (with_reducible repeat (first | apply Kd.R_alloc | apply Kd.R_drewN | apply Kd.R_drew)); exact HO_9.out)) k_ hk⟩)); (case aO => exact (by (with_reducible repeat (first | apply Kd.R_alloc | apply Kd.R_drewN | apply Kd.R_drew)); exact HO_8.out)); (case aS => exact (below_size (by repeat (first | (with_reducible first | exact HB.out | apply below_alloc | apply pw_below_drewN | apply below_drew1) | exact HB.out)))); (case aL => have := LMc28.out; omega); intro v224 w30 ho hb hg hat; rw [← Ny223.out] at ho; have n0_ := Aside0.mk (Kd.R_after (ok := (fun k_ => some k_ ≠ (u9 : Value).ownBlock)) (by (with_reducible repeat (first | apply Kd.R_alloc | apply Kd.R_drewN | apply Kd.R_drew)); exact Kd.R_mono HO_5.out (fun _ hk => ⟨hk.2, hk.1⟩)) hg hat); have n1_ := Aside0.mk (Kd.R_after (ok := (fun k_ => some k_ ≠ (.slice (some ad222) x5_4.length co9 : Value).ownBlock)) (by (with_reducible repeat (first | apply Kd.R_alloc | apply Kd.R_drewN | apply Kd.R_drew)); exact HO_9.out) hg hat); have n2_ := Aside0.mk (Kd.R_over' (by (with_reducible repeat (first | apply Kd.R_alloc | apply Kd.R_drewN | apply Kd.R_drew)); exact HO_10.out) (Kd.R_typed (by (with_reducible repeat (first | apply Kd.R_alloc | apply Kd.R_drewN | apply Kd.R_drew)); exact HO_8.out)) (by decide) hg); have n3_ := Aside0.mk (hb); have n4_ := Aside0.mk (ho); clear HO_5; clear HO_9; clear HO_10; clear HB; clear HO_8; have HO_5 := n0_; have HO_9 := n1_; have HO_10 := n2_; have HB := n3_; have HO225 := n4_; clear n0_ n1_ n2_ n3_ n4_; clear ho hb hg hat; have p226 : 0 ≤ (x11_2 : Int) := of_decide_eq_true (by first | (with_reducible assumption) | assumption); have q226 : x11_2 < (x5_4.length : Int) := of_decide_eq_true (by first | (with_reducible assumption) | assumption); obtain ⟨ad226, e226, hx226_0⟩ := Kd.at_int (Kd.R_reads' HO_5.out).2.2 x11_2 p226 q226; obtain rfl : ad222 = ad226 := (by injection e226); replace p226 := eq_true p226; replace q226 := eq_true q226) | ((with_reducible refine gate_builtin (b := .append) (xs := #[.tmp 53, .tmp 62]) rfl ?_); (try (refine gate_guard (by rfl) ?_; dsimp only)); at_builtin; refine Kd.R_append (Kd.int .i64) (w0 := w) w.heap.size rfl (.tmp 53) (.tmp 62) 23 3 (.int .i64 0) 8 rfl Tryd.underlying23 info3 rfl (by decide) (by omega) u9 x9_2 (Int.tmod (wrap64 (a0 * (rd x5_4 x11_2))) t212) [.int .i64 (Int.tmod (wrap64 (a0 * (rd x5_4 x11_2))) t212)] (fun k_ => some k_ ≠ (.slice (some ad222) x5_4.length co9 : Value).ownBlock ∧ some k_ ≠ (v224 : Value).ownBlock) (fun _ => False) rfl rfl ?aP (fun _ hk => hk.elim) ?aF ?aO ?aB ?aS ?aL ?_; (case aP => exact rfl); (case aB => exact (by repeat (first | (with_reducible first | exact HB.out | apply below_alloc | apply pw_below_drewN | apply below_drew1) | exact HB.out))); (case aF => exact (fun k_ hk => ⟨Kd.fresh' (Kd.R_lt (by (with_reducible repeat (first | apply Kd.R_alloc | apply Kd.R_drewN | apply Kd.R_drew)); exact HO_5.out)) k_ hk, Kd.fresh' (Kd.R_lt (by (with_reducible repeat (first | apply Kd.R_alloc | apply Kd.R_drewN | apply Kd.R_drew)); exact HO225.out)) k_ hk⟩)); (case aO => exact (by (with_reducible repeat (first | apply Kd.R_alloc | apply Kd.R_drewN | apply Kd.R_drew)); exact HO_9.out)); (case aS => exact (below_size (by repeat (first | (with_reducible first | exact HB.out | apply below_alloc | apply pw_below_drewN | apply below_drew1) | exact HB.out)))); (case aL => have := LMc29.out; omega); intro v228 w31 ho hb hg hat; rw [← Ny227.out] at ho; have n0_ := Aside0.mk (Kd.R_after (ok := (fun k_ => some k_ ≠ (v224 : Value).ownBlock)) (by (with_reducible repeat (first | apply Kd.R_alloc | apply Kd.R_drewN | apply Kd.R_drew)); exact Kd.R_mono HO_5.out (fun _ hk => ⟨hk.2, hk.1⟩)) hg hat); have n1_ := Aside0.mk (Kd.R_over' (by (with_reducible repeat (first | apply Kd.R_alloc | apply Kd.R_drewN | apply Kd.R_drew)); exact HO_10.out) (Kd.R_typed (by (with_reducible repeat (first | apply Kd.R_alloc | apply Kd.R_drewN | apply Kd.R_drew)); exact HO_9.out)) (by decide) hg); have n2_ := Aside0.mk (Kd.R_after (ok := (fun k_ => some k_ ≠ (.slice (some ad222) x5_4.length co9 : Value).ownBlock)) (by (with_reducible repeat (first | apply Kd.R_alloc | apply Kd.R_drewN | apply Kd.R_drew)); exact HO225.out) hg hat); have n3_ := Aside0.mk (hb); have n4_ := Aside0.mk (ho); clear HO_5; clear HO_10; clear HO225; clear HB; clear HO_9; have HO_5 := n0_; have HO_10 := n1_; have HO225 := n2_; have HB := n3_; have HO229 := n4_; clear n0_ n1_ n2_ n3_ n4_; clear ho hb hg hat))
                          go_roundg k2
                          case measure => have := HJ4.out; have := HK2.out; omega
                          case rel => exact ⟨(y223), (y227), (wrap64 (x11_2 + 1)), (by first | rfl | (simp; done) | (simp [*]; done)), H', ⟨by have := HJ4.out; have := HK2.out; omega⟩, ⟨by (try simp only [hl5_4]); (with_reducible repeat (first | apply Kd.R_alloc | apply Kd.R_drewN | apply Kd.R_drew)); exact HO_5.out⟩, ⟨by (try simp only [hl5_4]); (with_reducible repeat (first | apply Kd.R_alloc | apply Kd.R_drewN | apply Kd.R_drew)); exact HO225.out⟩, ⟨by (try simp only [hl5_4]); (with_reducible repeat (first | apply Kd.R_alloc | apply Kd.R_drewN | apply Kd.R_drew)); exact HO229.out⟩, ⟨by (try simp only [hl5_4]); (with_reducible repeat (first | apply Kd.R_alloc | apply Kd.R_drewN | apply Kd.R_drew)); exact HO_10.out⟩, ⟨by repeat (first | (with_reducible first | exact HB.out | apply below_alloc | apply pw_below_drewN | apply below_drew1) | exact HB.out)⟩⟩
                        · rw [if_neg c29] at H
                          exact absurd H (by simp)
                      · rw [if_neg c28] at H
                        exact absurd H (by simp)
                  · rw [if_neg c26] at H
                    exact absurd H (by simp)
                · rw [if_neg c25] at H
                  have c25b0 : decide (x11_2 < (x5_4.length : Int)) = false := decide_eq_false c25
                  clear c25
                  replace H := Option.bind_eq_some_iff.mp H
                  obtain ⟨t230, A320, H⟩ := H
                  replace H : (spec_l4Share.l2 k2 x8_2 x9_2 y219 (wrap64 (a0 - t230))) = some r := H
                  have A32 := Aside0.mk A320
                  clear A320
                  have H' := Aside0.mk H
                  clear H
                  obtain ⟨Ao33, co33, eo33⟩ := Kd.R_slice HO_8.out
                  subst eo33
                  go_wp2_with (first | ((with_reducible refine gate_callee (f := 54) rfl ?_); refine goesL_ (some 66) rfl rfl Tryd.func54 (by kernel_rfl) rfl #[.slice Ao33 x8_2.length co33] rfl (by (try simp only [List.map_toArray, List.map_cons, List.map_nil]); first | done | rfl | (simp only [List.length_drop, List.length_take]; rfl)) ?_; (with_reducible refine (spec_l1Sum.calls k2 _ _ x8_2 t230 _ ?side1 ?side2 A32.out).mono ?_); (case side1 => repeat (first | exact (Kd.R_reads' HO_8.out).2.2 | (with_reducible refine Kd.C_alloc ?_ _) | (with_reducible refine Kd.C_drewN ?_ _) | (with_reducible refine Kd.C_drew ?_))); (case side2 => exact (Kd.R_reads' HO_8.out).2.1); rintro e w' ⟨rfl, ⟨nd, rfl⟩⟩; refine ⟨_, rfl, ?_⟩))
                  go_loopg [12] k2 (fun kq v12 w' => ∃ (x8_3 : List Int) (x10_3 : List Bool) (x12_3 : Int), v12 = .int .i64 x12_3 ∧ Aside0 (spec_l4Share.l2 kq x8_3 x9_2 x10_3 x12_3 = some r) ∧ Aside0 (kq ≤ k2) ∧ Aside0 (Kd.R (Kd.int .i64) 3 w' w.heap.size (fun k_ => some k_ ≠ (u9 : Value).ownBlock) (.slice Ao33 x8_2.length co33) x8_3) ∧ Aside0 (Kd.R (Kd.int .i64) 3 w' w.heap.size (fun k_ => some k_ ≠ ((.slice Ao33 x8_2.length co33) : Value).ownBlock) u9 x9_2) ∧ Aside0 (Kd.R Kd.bool 4 w' w.heap.size (fun _ => True) v220 x10_3) ∧ Aside0 (Below w.heap.size w w'))
                  case atStart => exact ⟨(x8_2), (y219), (wrap64 (a0 - t230)), (by first | rfl | (simp; done) | (simp [*]; done)), H', ⟨Nat.le_refl _⟩, ⟨by (try simp only [hl5_4]); (with_reducible repeat (first | apply Kd.R_alloc | apply Kd.R_drewN | apply Kd.R_drew)); exact Kd.R_mono HO_8.out (fun _ hk => hk.2)⟩, ⟨by (try simp only [hl5_4]); (with_reducible repeat (first | apply Kd.R_alloc | apply Kd.R_drewN | apply Kd.R_drew)); exact Kd.R_mono HO_9.out (fun _ hk => hk.2)⟩, ⟨by (try simp only [hl5_4]); (with_reducible repeat (first | apply Kd.R_alloc | apply Kd.R_drewN | apply Kd.R_drew)); exact HO_10.out⟩, ⟨by repeat (first | (with_reducible first | exact HB.out | apply below_alloc | apply pw_below_drewN | apply below_drew1) | exact HB.out)⟩⟩
                  case round =>
                    clear H'
                    try clear c1
                    try clear p1
                    try clear q1
                    try clear hx1
                    try clear c2
                    try clear p2
                    try clear q2
                    try clear hx2
                    try clear c3
                    try clear c4
                    try clear c5
                    try clear p6
                    try clear c10
                    try clear c10b0
                    try clear c10b1
                    try clear c11
                    try clear c11b0
                    try clear c12
                    try clear c12b0
                    try clear p13
                    try clear q13
                    try clear hx13
                    try clear hf13
                    try clear c17
                    try clear c17b0
                    try clear c17b1
                    try clear c18
                    try clear c18b0
                    try clear c18b1
                    try clear p22
                    try clear q22
                    try clear hx22
                    try clear c25
                    try clear c25b0
                    try clear c26
                    try clear c26b0
                    try clear c27
                    try clear c27b0
                    try clear c27b1
                    try clear c28
                    try clear c29
                    try clear hx13_0
                    try clear hx222_0
                    try clear hx226_0
                    try clear p1
                    try clear p13
                    try clear p2
                    try clear p222
                    try clear p226
                    try clear p6
                    try clear q1
                    try clear q13
                    try clear q222
                    try clear q226
                    obtain ⟨x8_3, x10_3, x12_3, rfl, HA, HK3, HO_8, HO_9, HO_10, HB⟩ := hrel
                    have hl8_3 := (Kd.R_reads' HO_8.out).1
                    rw [hl8_3] at HO_8
                    (try simp only [hl8_3])
                    (try simp only [hl8_3] at HO_9)
                    (try simp only [hl8_3] at HO_10)
                    cases gk with
                    | zero => exact absurd HA.out (by simp [spec_l4Share.l2])
                    | succ k3 =>
                      have H := HA.out
                      clear HA
                      simp only [spec_l4Share.l2] at H
                      have HC34 := Aside0.mk H
                      clear H
                      go_upto_region 17 with (fail)
                      go_cut [74] (fun v74 wc => ∃ (kq : Nat) (x74_33 : Bool), v74 = .bool x74_33 ∧ Aside0 (spec_l4Share.j4 kq x8_3 x9_2 x10_3 x12_3 x74_33 = some r) ∧ Aside0 (kq ≤ k3) ∧ Aside0 (Kd.R (Kd.int .i64) 3 wc w.heap.size (fun k_ => some k_ ≠ (u9 : Value).ownBlock) (.slice Ao33 x8_3.length co33) x8_3) ∧ Aside0 (Kd.R (Kd.int .i64) 3 wc w.heap.size (fun k_ => some k_ ≠ ((.slice Ao33 x8_3.length co33) : Value).ownBlock) u9 x9_2) ∧ Aside0 (Kd.R Kd.bool 4 wc w.heap.size (fun _ => True) v220 x10_3) ∧ Aside0 (Below w.heap.size w wc))
                      case first =>
                        have H := HC34.out
                        clear HC34
                        by_cases c35 : x12_3 > 0
                        · rw [if_pos c35] at H
                          have c35b0 : decide (0 < x12_3) = true := decide_eq_true c35
                          clear c35
                          (first | rw [c35b0] | (simp only [i64_w, i32_w]; rw [c35b0]) | skip)
                          have H' := Aside0.mk H
                          clear H
                          go_wp2
                          go_meet
                          case rel => exact ⟨_, (decide ((x8_3.length : Int) > 0)), (by first | rfl | (simp; done) | (simp [*]; done)), H', ⟨by have := HJ4.out; have := HK2.out; have := HK3.out; first | omega | exact Nat.le_refl _⟩, ⟨by (try simp only [hl5_4]); (try simp only [hl8_3]); (with_reducible repeat (first | apply Kd.R_alloc | apply Kd.R_drewN | apply Kd.R_drew)); exact HO_8.out⟩, ⟨by (try simp only [hl5_4]); (try simp only [hl8_3]); (with_reducible repeat (first | apply Kd.R_alloc | apply Kd.R_drewN | apply Kd.R_drew)); exact HO_9.out⟩, ⟨by (try simp only [hl5_4]); (try simp only [hl8_3]); (with_reducible repeat (first | apply Kd.R_alloc | apply Kd.R_drewN | apply Kd.R_drew)); exact HO_10.out⟩, ⟨by repeat (first | (with_reducible first | exact HB.out | apply below_alloc | apply pw_below_drewN | apply below_drew1) | exact HB.out)⟩⟩
                        · rw [if_neg c35] at H
                          have c35b0 : decide (0 < x12_3) = false := decide_eq_false c35
                          clear c35
                          (first | rw [c35b0] | (simp only [i64_w, i32_w]; rw [c35b0]) | skip)
                          have H' := Aside0.mk H
                          clear H
                          go_wp2
                          go_meet
                          case rel => exact ⟨_, (false), (by first | rfl | (simp; done) | (simp [*]; done)), H', ⟨by have := HJ4.out; have := HK2.out; have := HK3.out; first | omega | exact Nat.le_refl _⟩, ⟨by (try simp only [hl5_4]); (try simp only [hl8_3]); (with_reducible repeat (first | apply Kd.R_alloc | apply Kd.R_drewN | apply Kd.R_drew)); exact HO_8.out⟩, ⟨by (try simp only [hl5_4]); (try simp only [hl8_3]); (with_reducible repeat (first | apply Kd.R_alloc | apply Kd.R_drewN | apply Kd.R_drew)); exact HO_9.out⟩, ⟨by (try simp only [hl5_4]); (try simp only [hl8_3]); (with_reducible repeat (first | apply Kd.R_alloc | apply Kd.R_drewN | apply Kd.R_drew)); exact HO_10.out⟩, ⟨by repeat (first | (with_reducible first | exact HB.out | apply below_alloc | apply pw_below_drewN | apply below_drew1) | exact HB.out)⟩⟩
                      case rest =>
                        clear HC34
                        try clear c1
                        try clear p1
                        try clear q1
                        try clear hx1
                        try clear c2
                        try clear p2
                        try clear q2
                        try clear hx2
                        try clear c3
                        try clear c4
                        try clear c5
                        try clear p6
                        try clear c10
                        try clear c10b0
                        try clear c10b1
                        try clear c11
                        try clear c11b0
                        try clear c12
                        try clear c12b0
                        try clear p13
                        try clear q13
                        try clear hx13
                        try clear hf13
                        try clear c17
                        try clear c17b0
                        try clear c17b1
                        try clear c18
                        try clear c18b0
                        try clear c18b1
                        try clear p22
                        try clear q22
                        try clear hx22
                        try clear c25
                        try clear c25b0
                        try clear c26
                        try clear c26b0
                        try clear c27
                        try clear c27b0
                        try clear c27b1
                        try clear c28
                        try clear c29
                        try clear c35
                        try clear c35b0
                        try clear hx13_0
                        try clear hx222_0
                        try clear hx226_0
                        try clear p1
                        try clear p13
                        try clear p2
                        try clear p22
                        try clear p222
                        try clear p226
                        try clear p6
                        try clear q1
                        try clear q13
                        try clear q2
                        try clear q22
                        try clear q222
                        try clear q226
                        obtain ⟨kq, x74_33, rfl, HA, HJ33, HO_8, HO_9, HO_10, HB⟩ := hcut
                        cases kq with
                        | zero => exact absurd HA.out (by simp [spec_l4Share.j4])
                        | succ kj33 =>
                          have H := HA.out
                          clear HA
                          simp only [spec_l4Share.j4] at H
                          by_cases c36 : x74_33 = true
                          · subst c36
                            have H1 : ((spec_l4Next.f kj33 x9_2 x10_3).bind fun t231 => (if t231 ≥ 0 then (if 0 ≤ t231 then (if t231 < (x10_3.length : Int) then (if t231 < (x8_3.length : Int) then (spec_l4Share.l2 kj33 (x8_3.set (t231 : Int).toNat (wrap64 ((rd x8_3 t231) + 1))) x9_2 (x10_3.set (t231 : Int).toNat true) (wrap64 (x12_3 - 1))) else (none)) else (none)) else (none)) else (spec_l4Share.l2 kj33 x8_3 x9_2 x10_3 (wrap64 (x12_3 - 1))))) = some r := by rw [if_pos rfl] at H; exact H
                            clear H
                            have H := H1
                            clear H1
                            replace H := Option.bind_eq_some_iff.mp H
                            obtain ⟨t231, A370, H⟩ := H
                            replace H : (if t231 ≥ 0 then (if 0 ≤ t231 then (if t231 < (x10_3.length : Int) then (if t231 < (x8_3.length : Int) then (spec_l4Share.l2 kj33 (x8_3.set (t231 : Int).toNat (wrap64 ((rd x8_3 t231) + 1))) x9_2 (x10_3.set (t231 : Int).toNat true) (wrap64 (x12_3 - 1))) else (none)) else (none)) else (none)) else (spec_l4Share.l2 kj33 x8_3 x9_2 x10_3 (wrap64 (x12_3 - 1)))) = some r := H
                            have A37 := Aside0.mk A370
                            clear A370
                            by_cases c38 : t231 ≥ 0
                            · rw [if_pos c38] at H
                              have c38b0 : decide (0 ≤ t231) = true := decide_eq_true c38
                              clear c38
                              by_cases c39 : 0 ≤ t231
                              · rw [if_pos c39] at H
                                have c39b0 : decide (0 ≤ t231) = true := decide_eq_true c39
                                clear c39
                                by_cases c40 : t231 < (x10_3.length : Int)
                                · rw [if_pos c40] at H
                                  have c40b0 : decide (t231 < (x10_3.length : Int)) = true := decide_eq_true c40
                                  clear c40
                                  obtain ⟨y232, hy232⟩ : ∃ y_ : List Bool, y_ = (x10_3.set (t231 : Int).toNat true) := ⟨_, rfl⟩
                                  replace H : (if t231 < (x8_3.length : Int) then (spec_l4Share.l2 kj33 (x8_3.set (t231 : Int).toNat (wrap64 ((rd x8_3 t231) + 1))) x9_2 y232 (wrap64 (x12_3 - 1))) else (none)) = some r := by first | (rw [hy232]; with_reducible exact H) | (have H2_ := (Option.bind_some _ _).symm.trans H; rw [hy232]; with_reducible exact H2_) | (have H2_ := (Option.bind_some _ _).symm.trans H; with_reducible exact H2_) | with_reducible exact H | (rw [hy232]; exact H) | exact H
                                  have Ny232 := Aside0.mk hy232
                                  clear hy232
                                  by_cases c42 : t231 < (x8_3.length : Int)
                                  · rw [if_pos c42] at H
                                    have c42b0 : decide (t231 < (x8_3.length : Int)) = true := decide_eq_true c42
                                    clear c42
                                    obtain ⟨y234, hy234⟩ : ∃ y_ : List Int, y_ = (x8_3.set (t231 : Int).toNat (wrap64 ((rd x8_3 t231) + 1))) := ⟨_, rfl⟩
                                    replace H : (spec_l4Share.l2 kj33 y234 x9_2 y232 (wrap64 (x12_3 - 1))) = some r := by first | (rw [hy234]; with_reducible exact H) | (have H2_ := (Option.bind_some _ _).symm.trans H; rw [hy234]; with_reducible exact H2_) | (have H2_ := (Option.bind_some _ _).symm.trans H; with_reducible exact H2_) | with_reducible exact H | (rw [hy234]; exact H) | exact H
                                    have Ny234 := Aside0.mk hy234
                                    clear hy234
                                    have H' := Aside0.mk H
                                    clear H
                                    obtain ⟨Ao44, co44, eo44⟩ := Kd.R_slice HO_9.out
                                    subst eo44
                                    obtain ⟨Ao45, co45, eo45⟩ := Kd.R_slice HO_10.out
                                    subst eo45
                                    go_wp2_with (first | ((with_reducible refine gate_callee (f := 64) rfl ?_); refine goesL_ (some 79) rfl rfl Tryd.func64 (by kernel_rfl) rfl #[.slice Ao44 x9_2.length co44, .slice Ao45 x10_3.length co45] rfl (by (try simp only [List.map_toArray, List.map_cons, List.map_nil]); first | done | rfl | (simp only [List.length_drop, List.length_take]; rfl)) ?_; (with_reducible refine (spec_l4Next.calls kj33 _ _ x9_2 _ _ x10_3 t231 _ ?side1 ?side2 ?side3 ?side4 A37.out).mono ?_); (case side1 => repeat (first | exact (Kd.R_reads' HO_9.out).2.2 | (with_reducible refine Kd.C_alloc ?_ _) | (with_reducible refine Kd.C_drewN ?_ _) | (with_reducible refine Kd.C_drew ?_))); (case side2 => exact (Kd.R_reads' HO_9.out).2.1); (case side3 => repeat (first | exact (Kd.R_reads' HO_10.out).2.2 | (with_reducible refine Kd.C_alloc ?_ _) | (with_reducible refine Kd.C_drewN ?_ _) | (with_reducible refine Kd.C_drew ?_))); (case side4 => exact (Kd.R_reads' HO_10.out).2.1); rintro e w' ⟨rfl, ⟨nd, rfl⟩⟩; refine ⟨_, rfl, ?_⟩; (try (rw [drewN_self wc]; generalize hq_ : World.drewN wc _ = wc; have n0_ : Aside0 (Kd.R Kd.bool 4 wc w.heap.size (fun _ => True) (.slice Ao45 x10_3.length co45) x10_3) := ⟨by rw [← hq_]; exact (by (with_reducible repeat (first | apply Kd.R_alloc | apply Kd.R_drewN | apply Kd.R_drew)); exact HO_10.out)⟩; have n1_ : Aside0 (Kd.R (Kd.int .i64) 3 wc w.heap.size (fun k_ => some k_ ≠ (.slice Ao44 x9_2.length co44 : Value).ownBlock) (.slice Ao33 x8_3.length co33) x8_3) := ⟨by rw [← hq_]; exact (by (with_reducible repeat (first | apply Kd.R_alloc | apply Kd.R_drewN | apply Kd.R_drew)); exact HO_8.out)⟩; have n2_ : Aside0 (Kd.R (Kd.int .i64) 3 wc w.heap.size (fun k_ => some k_ ≠ (.slice Ao33 x8_3.length co33 : Value).ownBlock) (.slice Ao44 x9_2.length co44) x9_2) := ⟨by rw [← hq_]; exact (by (with_reducible repeat (first | apply Kd.R_alloc | apply Kd.R_drewN | apply Kd.R_drew)); exact HO_9.out)⟩; have n3_ : Aside0 (Below w.heap.size w wc) := ⟨by rw [← hq_]; exact (by repeat (first | (with_reducible first | exact HB.out | apply below_alloc | apply pw_below_drewN | apply below_drew1) | exact HB.out))⟩; clear HO_10 HO_8 HO_9 HB hq_; have HO_10 := n0_; have HO_8 := n1_; have HO_9 := n2_; have HB := n3_; clear n0_ n1_ n2_ n3_)); have p41 : 0 ≤ (t231 : Int) := of_decide_eq_true (by first | (with_reducible assumption) | assumption); have q41 : (t231 : Int) < ((x10_3.length : Int) : Int) := of_decide_eq_true (by first | (with_reducible assumption) | assumption); obtain ⟨go41, co41, eo41, gb41, gl41, cl41, HG41⟩ := Kd.R_form HO_10.out (by omega); (first | cases eo41 | (injection eo41 with ea_ en_ ec_; (first | subst ea_ | (injection ea_ with ea_; subst ea_)); subst ec_; clear en_)); have GB41 := Aside0.mk gb41; have GG41 := Aside0.mk HG41; clear gb41 gl41 HG41; obtain ⟨hx41_0, hf41_0⟩ := Kd.R_celln false HO_10.out (t231 : Int) p41 q41; replace p41 := eq_true p41; replace q41 := eq_true q41; obtain ⟨hy46_, hz46_⟩ := Kd.R_celln false HO_10.out (t231 : Int) (of_decide_eq_true (by first | (with_reducible assumption) | assumption)) (of_decide_eq_true (by first | (with_reducible assumption) | assumption)); have HP46 := Kd.R_putg HO_10.out (t231 : Int) true) | ((with_reducible refine gate_store (t := 4) (p := 84) rfl ?_); refine store_event (t := 4) (p := 84) (v := ?vo_w47) (w1 := (wc.setCell ⟨go41, (t231 : Int).toNat, none⟩ (.bool true))) ?hg ?ho ?hn ?hr ?_; (case ho => rfl); (case hg => rfl); (case hn => rfl); (case hr => first | (go_simp; done) | (go_simp; rfl)); intro w47 hw; have hg : wc.grownBy w47 (some go41) := (by rw [hw]; exact HP46.2); have hp_ : Kd.R Kd.bool 4 w47 w.heap.size (fun _ => True) (.slice (some ⟨go41, 0, none⟩) x10_3.length co45) y232 := (by rw [hw, Ny232.out]; exact HP46.1); clear HP46; have n0_ := Aside0.mk (Kd.R_over' (v := (.slice (some ⟨go41, 0, none⟩) x10_3.length co45)) (by (with_reducible repeat (first | apply Kd.R_alloc | apply Kd.R_drewN | apply Kd.R_drew)); exact HO_8.out) (Kd.R_typed HO_10.out) (by decide) hg); have n1_ := Aside0.mk (Kd.R_over' (v := (.slice (some ⟨go41, 0, none⟩) x10_3.length co45)) (by (with_reducible repeat (first | apply Kd.R_alloc | apply Kd.R_drewN | apply Kd.R_drew)); exact HO_9.out) (Kd.R_typed HO_10.out) (by decide) hg); have n2_ := Aside0.mk (hp_); have n3_ := Aside0.mk ((by rw [hw]; exact below_set (HB.out) GB41.out : Below w.heap.size w w47)); clear HO_8; clear HO_9; clear HO_10; clear HB; have HO_8 := n0_; have HO_9 := n1_; have HO_10 := n2_; have HB := n3_; clear n0_ n1_ n2_ n3_; clear hg hw hp_; have p233 : 0 ≤ (t231 : Int) := of_decide_eq_true (by first | (with_reducible assumption) | assumption); have q233 : t231 < (x8_3.length : Int) := of_decide_eq_true (by first | (with_reducible assumption) | assumption); obtain ⟨ad233, e233, hx233_0⟩ := Kd.at_int (Kd.R_reads' HO_8.out).2.2 t231 p233 q233; cases e233; replace p233 := eq_true p233; replace q233 := eq_true q233; have p43 : 0 ≤ (t231 : Int) := of_decide_eq_true (by first | (with_reducible assumption) | assumption); have q43 : (t231 : Int) < ((x8_3.length : Int) : Int) := of_decide_eq_true (by first | (with_reducible assumption) | assumption); obtain ⟨go43, co43, eo43, gb43, gl43, cl43, HG43⟩ := Kd.R_form HO_8.out (by omega); (first | cases eo43 | (injection eo43 with ea_ en_ ec_; (first | subst ea_ | (injection ea_ with ea_; subst ea_)); subst ec_; clear en_)); have GB43 := Aside0.mk gb43; have GG43 := Aside0.mk HG43; clear gb43 gl43 HG43; (first | simp only [add_plain] at hx233_0 | skip); obtain ⟨hx43_0, hf43_0⟩ := Kd.R_celln 0 HO_8.out (t231 : Int) p43 q43; replace p43 := eq_true p43; replace q43 := eq_true q43; obtain ⟨hy48_, hz48_⟩ := Kd.R_celln 0 HO_8.out (t231 : Int) (of_decide_eq_true (by first | (with_reducible assumption) | assumption)) (of_decide_eq_true (by first | (with_reducible assumption) | assumption)); have HP48 := Kd.R_putg HO_8.out (t231 : Int) (wrap64 ((rd x8_3 t231) + 1))) | ((with_reducible refine gate_store (t := 3) (p := 92) rfl ?_); refine store_event (t := 3) (p := 92) (v := ?vo_w49) (w1 := (w47.setCell ⟨go43, (t231 : Int).toNat, none⟩ (.int .i64 (wrap64 ((rd x8_3 t231) + 1))))) ?hg ?ho ?hn ?hr ?_; (case ho => rfl); (case hg => rfl); (case hn => rfl); (case hr => first | (go_simp; done) | (go_simp; rfl)); intro w49 hw; have hg : w47.grownBy w49 (some go43) := (by rw [hw]; exact HP48.2); have hp_ : Kd.R (Kd.int .i64) 3 w49 w.heap.size (fun k_ => some k_ ≠ (.slice Ao44 x9_2.length co44 : Value).ownBlock) (.slice (some ⟨go43, 0, none⟩) x8_3.length co33) y234 := (by rw [hw, Ny234.out]; exact HP48.1); clear HP48; have n0_ := Aside0.mk (hp_); have n1_ := Aside0.mk (Kd.R_after (v := (.slice (some ⟨go43, 0, none⟩) x8_3.length co33)) (v1 := (.slice (some ⟨go43, 0, none⟩) x8_3.length co33)) (ok := (fun _ => True)) (by (with_reducible repeat (first | apply Kd.R_alloc | apply Kd.R_drewN | apply Kd.R_drew)); exact Kd.R_mono HO_9.out (fun _ hk => ⟨trivial, hk⟩)) hg (.inl rfl)); have n2_ := Aside0.mk (Kd.R_over' (v := (.slice (some ⟨go43, 0, none⟩) x8_3.length co33)) (by (with_reducible repeat (first | apply Kd.R_alloc | apply Kd.R_drewN | apply Kd.R_drew)); exact HO_10.out) (Kd.R_typed HO_8.out) (by decide) hg); have n3_ := Aside0.mk ((by rw [hw]; exact below_set (HB.out) GB43.out : Below w.heap.size w w49)); clear HO_8; clear HO_9; clear HO_10; clear HB; have HO_8 := n0_; have HO_9 := n1_; have HO_10 := n2_; have HB := n3_; clear n0_ n1_ n2_ n3_; clear hg hw hp_))
                                    (try simp only [← hl8_3])
                                    go_roundg kj33
                                    case measure => have := HJ4.out; have := HK2.out; have := HK3.out; have := HJ33.out; omega
                                    case rel => exact ⟨(y234), (y232), (wrap64 (x12_3 - 1)), (by first | rfl | (simp; done) | (simp [*]; done)), H', ⟨by have := HJ4.out; have := HK2.out; have := HK3.out; have := HJ33.out; omega⟩, ⟨by (try simp only [hl5_4]); (try simp only [hl8_3]); (with_reducible repeat (first | apply Kd.R_alloc | apply Kd.R_drewN | apply Kd.R_drew)); exact HO_8.out⟩, ⟨by (try simp only [hl5_4]); (try simp only [hl8_3]); (with_reducible repeat (first | apply Kd.R_alloc | apply Kd.R_drewN | apply Kd.R_drew)); exact Kd.R_mono HO_9.out (fun _ hk => hk.2)⟩, ⟨by (try simp only [hl5_4]); (try simp only [hl8_3]); (with_reducible repeat (first | apply Kd.R_alloc | apply Kd.R_drewN | apply Kd.R_drew)); exact HO_10.out⟩, ⟨by repeat (first | (with_reducible first | exact HB.out | apply below_alloc | apply pw_below_drewN | apply below_drew1) | exact HB.out)⟩⟩
                                  · rw [if_neg c42] at H
                                    exact absurd H (by simp)
                                · rw [if_neg c40] at H
                                  exact absurd H (by simp)
                              · rw [if_neg c39] at H
                                exact absurd H (by simp)
                            · rw [if_neg c38] at H
                              have c38b0 : decide (0 ≤ t231) = false := decide_eq_false c38
                              clear c38
                              have H' := Aside0.mk H
                              clear H
                              obtain ⟨Ao50, co50, eo50⟩ := Kd.R_slice HO_9.out
                              subst eo50
                              obtain ⟨Ao51, co51, eo51⟩ := Kd.R_slice HO_10.out
                              subst eo51
                              go_wp2_with (first | ((with_reducible refine gate_callee (f := 64) rfl ?_); refine goesL_ (some 79) rfl rfl Tryd.func64 (by kernel_rfl) rfl #[.slice Ao50 x9_2.length co50, .slice Ao51 x10_3.length co51] rfl (by (try simp only [List.map_toArray, List.map_cons, List.map_nil]); first | done | rfl | (simp only [List.length_drop, List.length_take]; rfl)) ?_; (with_reducible refine (spec_l4Next.calls kj33 _ _ x9_2 _ _ x10_3 t231 _ ?side1 ?side2 ?side3 ?side4 A37.out).mono ?_); (case side1 => repeat (first | exact (Kd.R_reads' HO_9.out).2.2 | (with_reducible refine Kd.C_alloc ?_ _) | (with_reducible refine Kd.C_drewN ?_ _) | (with_reducible refine Kd.C_drew ?_))); (case side2 => exact (Kd.R_reads' HO_9.out).2.1); (case side3 => repeat (first | exact (Kd.R_reads' HO_10.out).2.2 | (with_reducible refine Kd.C_alloc ?_ _) | (with_reducible refine Kd.C_drewN ?_ _) | (with_reducible refine Kd.C_drew ?_))); (case side4 => exact (Kd.R_reads' HO_10.out).2.1); rintro e w' ⟨rfl, ⟨nd, rfl⟩⟩; refine ⟨_, rfl, ?_⟩))
                              (try simp only [← hl8_3])
                              go_roundg kj33
                              case measure => have := HJ4.out; have := HK2.out; have := HK3.out; have := HJ33.out; omega
                              case rel => exact ⟨(x8_3), (x10_3), (wrap64 (x12_3 - 1)), (by first | rfl | (simp; done) | (simp [*]; done)), H', ⟨by have := HJ4.out; have := HK2.out; have := HK3.out; have := HJ33.out; omega⟩, ⟨by (try simp only [hl5_4]); (try simp only [hl8_3]); (with_reducible repeat (first | apply Kd.R_alloc | apply Kd.R_drewN | apply Kd.R_drew)); exact HO_8.out⟩, ⟨by (try simp only [hl5_4]); (try simp only [hl8_3]); (with_reducible repeat (first | apply Kd.R_alloc | apply Kd.R_drewN | apply Kd.R_drew)); exact HO_9.out⟩, ⟨by (try simp only [hl5_4]); (try simp only [hl8_3]); (with_reducible repeat (first | apply Kd.R_alloc | apply Kd.R_drewN | apply Kd.R_drew)); exact HO_10.out⟩, ⟨by repeat (first | (with_reducible first | exact HB.out | apply below_alloc | apply pw_below_drewN | apply below_drew1) | exact HB.out)⟩⟩
                          · replace c36 := Bool.eq_false_iff.mpr c36
                            subst c36
                            have H1 : (some x8_3) = some r := by rw [if_neg (show ¬ (false = true) by decide)] at H; exact H
                            clear H
                            have H := H1
                            clear H1
                            obtain rfl := Option.some.inj H
                            go_wp2
                            go_ret
                            exact ⟨_, by first | rfl | (simp [errW_none, errW_some] <;> rfl) | (simp [*, errW_none, errW_some] <;> rfl), by (with_reducible repeat (first | apply Kd.R_alloc | apply Kd.R_drewN | apply Kd.R_drew)); exact Kd.R_mono HO_8.out (fun _ hk => trivial), by repeat (first | (with_reducible first | exact HB.out | apply below_alloc | apply pw_below_drewN | apply below_drew1) | exact HB.out)⟩
          · rw [if_neg c18] at H
            exact absurd H (by simp)
        · rw [if_neg c17] at H
          exact absurd H (by simp)
  · rw [if_neg c3] at H
    exact absurd H (by simp)
end Go.Proofs.YtcjpojppbmlfaaaDoor.Pr
namespace Go.Proofs.YtcjpojppbmlfaaaDoor.Pr
open Go.RowKit Go.Proofs.YtcjpojppbmlfaaaDoorW.PrintWords Go.Proofs.YtcjpojppbmlfaaaDoorW.PrintLast Go.Proofs.YtcjpojppbmlfaaaDoorW.PrintMore
attribute [local go_sem] max2_int min2_int max_two min_two max_three min_three max_four min_four
set_option linter.unusedVariables false
set_option linter.unusedSimpArgs false
def spec_ShrShare.f (k : Nat) (a0 : Int) (l1 : List Int) : Option (List Int) := (spec_ShrOk.f k a0 l1).bind fun t235 => (if t235 = true then ((spec_l4Share.f k a0 l1).bind fun t236 => (some t236)) else (some (([] : List Int))))
theorem spec_ShrShare.mono : ∀ a0 a1 k, LeO (spec_ShrShare.f k a0 a1) (spec_ShrShare.f (k + 1) a0 a1) := by
  intro a0 a1 k
  unfold spec_ShrShare.f
  repeat' first
      | (with_reducible exact spec_ShrOk.mono _ _ _)
      | (with_reducible exact spec_l4Share.mono _ _ _)
      | (with_reducible exact LeO.refl _)
      | (with_reducible exact LeO.none _)
      | (with_reducible refine LeO.ite ?_ ?_)
      | (with_reducible refine LeO.bind ?_ (fun _ => ?_))
      | exact spec_ShrOk.mono _ _ _
      | exact spec_l4Share.mono _ _ _
      | exact LeO.none _
      | refine LeO.ite ?_ ?_
      | refine LeO.bind ?_ (fun _ => ?_)
set_option maxHeartbeats 8000000 in
set_option maxRecDepth 100000 in
theorem spec_ShrShare.calls (k : Nat) (a0 : Int) (A1 : Option Addr) (c1 : Nat) (l1 : List Int) (r : List Int) (w : World) (hr1 : Kd.C (Kd.int .i64) w A1 l1.length l1) (hc1 : l1.length ≤ c1) (h : spec_ShrShare.f k a0 l1 = some r) :
    Calls Tryd.prog 17 #[.int .i64 a0, .slice A1 l1.length c1] w fun e w' => ∃ v0_ : Value, e = .returned (v0_) ∧ Kd.R (Kd.int .i64) 3 w' w.heap.size (fun _ => True) v0_ r ∧ Below w.heap.size w w' := by
  have HR1 := Aside0.mk hr1
  have HC1 := Aside0.mk hc1
  clear hr1 hc1
  have HB := Aside0.mk (Below.refl w.heap.size w)
  have H : ((spec_ShrOk.f k a0 l1).bind fun t235 => (if t235 = true then ((spec_l4Share.f k a0 l1).bind fun t236 => (some t236)) else (some (([] : List Int))))) = some r := h
  clear h
  replace H := Option.bind_eq_some_iff.mp H
  obtain ⟨t235, A30, H⟩ := H
  replace H : (if t235 = true then ((spec_l4Share.f k a0 l1).bind fun t236 => (some t236)) else (some (([] : List Int)))) = some r := H
  have A3 := Aside0.mk A30
  clear A30
  by_cases c4 : t235 = true
  · subst c4
    have H1 : ((spec_l4Share.f k a0 l1).bind fun t236 => (some t236)) = some r := by rw [if_pos rfl] at H; exact H
    clear H
    have H := H1
    clear H1
    replace H := Option.bind_eq_some_iff.mp H
    obtain ⟨t236, A50, H⟩ := H
    replace H : (some t236) = some r := H
    have A5 := Aside0.mk A50
    clear A50
    obtain rfl := Option.some.inj H
    go_enter Tryd.func17, Tryd.ntmps17
    go_wp2_with (first | ((with_reducible refine gate_callee (f := 19) rfl ?_); refine goesL_ (some 7) rfl rfl Tryd.func19 (by kernel_rfl) rfl #[.int .i64 a0, .slice A1 l1.length c1] rfl (by (try simp only [List.map_toArray, List.map_cons, List.map_nil]); first | done | rfl | (simp only [List.length_drop, List.length_take]; rfl)) ?_; (with_reducible refine (spec_ShrOk.calls k a0 _ _ l1 true _ ?side1 ?side2 A3.out).mono ?_); (case side1 => repeat (first | exact HR1.out | (with_reducible refine Kd.C_alloc ?_ _) | (with_reducible refine Kd.C_drewN ?_ _) | (with_reducible refine Kd.C_drew ?_))); (case side2 => exact HC1.out); rintro e w' ⟨rfl, ⟨nd, rfl⟩⟩; refine ⟨_, rfl, ?_⟩) | ((with_reducible refine gate_callee (f := 49) rfl ?_); refine goesL_ (some 12) rfl rfl Tryd.func49 (by kernel_rfl) rfl #[.int .i64 a0, .slice A1 l1.length c1] rfl (by (try simp only [List.map_toArray, List.map_cons, List.map_nil]); first | done | rfl | (simp only [List.length_drop, List.length_take]; rfl)) ?_; (with_reducible refine (spec_l4Share.calls k a0 _ _ l1 t236 _ ?side1 ?side2 A5.out).mono ?_); (case side1 => repeat (first | exact HR1.out | (with_reducible refine Kd.C_alloc ?_ _) | (with_reducible refine Kd.C_drewN ?_ _) | (with_reducible refine Kd.C_drew ?_))); (case side2 => exact HC1.out); rintro e w6 ⟨v237, rfl, ho0, hb⟩; refine ⟨_, rfl, ?_⟩; have n0_ := Aside0.mk (Kd.R_lower ho0 (below_size (by repeat (first | (with_reducible first | exact HB.out | apply below_alloc | apply pw_below_drewN | apply below_drew1) | exact HB.out)))); have n1_ := Aside0.mk (below_step (by repeat (first | (with_reducible first | exact HB.out | apply below_alloc | apply pw_below_drewN | apply below_drew1) | exact HB.out)) hb); clear HB; have HO238 := n0_; have HB := n1_; clear n0_ n1_; (try clear hb); (try clear hb2); (try clear hk); (try clear hi); (try clear ho0)))
    go_ret
    exact ⟨_, by first | rfl | (simp [errW_none, errW_some] <;> rfl) | (simp [*, errW_none, errW_some] <;> rfl), by (with_reducible repeat (first | apply Kd.R_alloc | apply Kd.R_drewN | apply Kd.R_drew)); exact HO238.out, by repeat (first | (with_reducible first | exact HB.out | apply below_alloc | apply pw_below_drewN | apply below_drew1) | exact HB.out)⟩
  · replace c4 := Bool.eq_false_iff.mpr c4
    subst c4
    have H1 : (some (([] : List Int))) = some r := by rw [if_neg (show ¬ (false = true) by decide)] at H; exact H
    clear H
    have H := H1
    clear H1
    obtain ⟨y239, hy239⟩ : ∃ y_ : List Int, y_ = (([] : List Int)) := ⟨_, rfl⟩
    replace H : (some y239) = some r := by first | (rw [hy239]; with_reducible exact H) | (have H2_ := (Option.bind_some _ _).symm.trans H; rw [hy239]; with_reducible exact H2_) | (have H2_ := (Option.bind_some _ _).symm.trans H; with_reducible exact H2_) | with_reducible exact H | (rw [hy239]; exact H) | exact H
    have Ny239 := Aside0.mk hy239
    clear hy239
    obtain rfl := Option.some.inj H
    go_enter Tryd.func17, Tryd.ntmps17
    go_wp2_with (first | ((with_reducible refine gate_callee (f := 19) rfl ?_); refine goesL_ (some 7) rfl rfl Tryd.func19 (by kernel_rfl) rfl #[.int .i64 a0, .slice A1 l1.length c1] rfl (by (try simp only [List.map_toArray, List.map_cons, List.map_nil]); first | done | rfl | (simp only [List.length_drop, List.length_take]; rfl)) ?_; (with_reducible refine (spec_ShrOk.calls k a0 _ _ l1 false _ ?side1 ?side2 A3.out).mono ?_); (case side1 => repeat (first | exact HR1.out | (with_reducible refine Kd.C_alloc ?_ _) | (with_reducible refine Kd.C_drewN ?_ _) | (with_reducible refine Kd.C_drew ?_))); (case side2 => exact HC1.out); rintro e w' ⟨rfl, ⟨nd, rfl⟩⟩; refine ⟨_, rfl, ?_⟩) | ((with_reducible refine gate_dst (N := 9) rfl ?_); refine Kd.R_lit (Kd.int .i64) _ 3 ?hg (N := 9) ?hd (xs := ([] : List Int)) (inner := []) (ok := fun _ => True) (okp := fun _ => True) ?hr ?hp (fun _ hk => hk) trivial (Below.refl _ _) (Nat.le_refl _) (by simp) ?_; (case hd => rfl); (case hg => rfl); (case hr => first | (go_simp; done) | (go_simp; rfl)); (case hp => exact (Reps.none _ _)); intro v240 w7 ho8 hb hg_ hnew_; clear hg_ hnew_; (first | rw [← Ny239.out] at ho8 | (simp only [Int.reduceToNat] at ho8; rw [← Ny239.out] at ho8)); have n0_ := Aside0.mk (Kd.R_lower ho8 (below_size (by repeat (first | (with_reducible first | exact HB.out | apply below_alloc | apply pw_below_drewN | apply below_drew1) | exact HB.out)))); have n1_ := Aside0.mk (below_step (by repeat (first | (with_reducible first | exact HB.out | apply below_alloc | apply pw_below_drewN | apply below_drew1) | exact HB.out)) hb); clear HB; have HO241 := n0_; have HB := n1_; clear n0_ n1_; clear hb ho8))
    go_ret
    exact ⟨_, by first | rfl | (simp [errW_none, errW_some] <;> rfl) | (simp [*, errW_none, errW_some] <;> rfl), by (with_reducible repeat (first | apply Kd.R_alloc | apply Kd.R_drewN | apply Kd.R_drew)); exact HO241.out, by repeat (first | (with_reducible first | exact HB.out | apply below_alloc | apply pw_below_drewN | apply below_drew1) | exact HB.out)⟩
end Go.Proofs.YtcjpojppbmlfaaaDoor.Pr
