/- A part of what the claim of 'FnTxtJoin' leans on. -/
import Derived.Test.YtldmepofbkcmnaaFnTxtJoinPr0
import Derived.Test.YtldmepofbkcmnaaFnTxtJoinPr7
import Derived.Test.YtldmepofbkcmnaaFnTxtJoinPr8
import Derived.Test.YtldmepofbkcmnaaFnTxtJoinPr9
namespace Go.Proofs.Ytldmepofbkcmnaa.Pr
open Go.RowKit Go.Proofs.YtldmepofbkcmnaaW.PrintWords Go.Proofs.YtldmepofbkcmnaaW.PrintLast Go.Proofs.YtldmepofbkcmnaaW.PrintMore
attribute [local go_sem] max2_int min2_int max_two min_two max_three min_three max_four min_four
set_option linter.unusedVariables false
set_option linter.unusedSimpArgs false
def spec_DrawTxtJoin.l0 : Nat → List ByteArray → Int → List Int → Int → Option (List ByteArray)
  | 0, _, _, _, _ => none
  | k + 1, x4, x5, x130000, x130001 => if x5 > 0 then ((spec_l20AnyText.f k x130000 x130001 8).bind fun bt135 => (if x4.length < 8796093022208 then (spec_DrawTxtJoin.l0 k (x4 ++ [bt135.1]) (wrap64 (x5 - 1)) x130000 bt135.2) else (none))) else (some x4)
def spec_DrawTxtJoin.f (k : Nat) (l0 : List Int) : Option (List ByteArray) := (spec_l20Open.f l0).bind fun bt127 => ((spec_l20Rd_pick.f k bt127.1 bt127.2 5).bind fun bt133 => (spec_DrawTxtJoin.l0 k (([] : List ByteArray)) bt133.1 bt127.1 bt133.2))
theorem spec_DrawTxtJoin.mono_l : ∀ k, (∀ y0 y1 y2 y3, LeO (spec_DrawTxtJoin.l0 k y0 y1 y2 y3) (spec_DrawTxtJoin.l0 (k + 1) y0 y1 y2 y3))
  | 0 => fun _ _ _ _ r h => by simp [spec_DrawTxtJoin.l0] at h
  | k + 1 => by
    have ih0 := spec_DrawTxtJoin.mono_l k
    · intro y0 y1 y2 y3
      unfold spec_DrawTxtJoin.l0
      repeat' first
      | (with_reducible exact ih0 _ _ _ _)
      | (with_reducible exact spec_l20AnyText.mono _ _ _ _)
      | (with_reducible exact spec_l20Rd_pick.mono _ _ _ _)
      | (with_reducible exact LeO.refl _)
      | (with_reducible exact LeO.none _)
      | (with_reducible refine LeO.ite ?_ ?_)
      | (with_reducible refine LeO.bind ?_ (fun _ => ?_))
      | exact ih0 _ _ _ _
      | exact spec_l20AnyText.mono _ _ _ _
      | exact spec_l20Rd_pick.mono _ _ _ _
      | exact LeO.none _
      | refine LeO.ite ?_ ?_
      | refine LeO.bind ?_ (fun _ => ?_)
theorem spec_DrawTxtJoin.mono : ∀ a0 k, LeO (spec_DrawTxtJoin.f k a0) (spec_DrawTxtJoin.f (k + 1) a0) := by
  intro a0 k
  have ih0 := spec_DrawTxtJoin.mono_l k
  unfold spec_DrawTxtJoin.f
  repeat' first
      | (with_reducible exact ih0 _ _ _ _)
      | (with_reducible exact spec_l20AnyText.mono _ _ _ _)
      | (with_reducible exact spec_l20Rd_pick.mono _ _ _ _)
      | (with_reducible exact LeO.refl _)
      | (with_reducible exact LeO.none _)
      | (with_reducible refine LeO.ite ?_ ?_)
      | (with_reducible refine LeO.bind ?_ (fun _ => ?_))
      | exact ih0 _ _ _ _
      | exact spec_l20AnyText.mono _ _ _ _
      | exact spec_l20Rd_pick.mono _ _ _ _
      | exact LeO.none _
      | refine LeO.ite ?_ ?_
      | refine LeO.bind ?_ (fun _ => ?_)
set_option maxHeartbeats 8000000 in
set_option maxRecDepth 100000 in
theorem spec_DrawTxtJoin.calls (k : Nat) (A0 : Option Addr) (c0 : Nat) (l0 : List Int) (r : List ByteArray) (w : World) (hr0 : Kd.C (Kd.int .u8) w A0 l0.length l0) (hc0 : l0.length ≤ c0) (h : spec_DrawTxtJoin.f k l0 = some r) :
    Calls Try.prog 4 #[.slice A0 l0.length c0] w fun e w' => ∃ v0_ : Value, e = .returned (v0_) ∧ Kd.R Kd.string 9 w' w.heap.size (fun _ => True) v0_ r ∧ Below w.heap.size w w' := by
  have HR0 := Aside0.mk hr0
  have HC0 := Aside0.mk hc0
  clear hr0 hc0
  have HB := Aside0.mk (Below.refl w.heap.size w)
  have H : ((spec_l20Open.f l0).bind fun bt127 => ((spec_l20Rd_pick.f k bt127.1 bt127.2 5).bind fun bt133 => (spec_DrawTxtJoin.l0 k (([] : List ByteArray)) bt133.1 bt127.1 bt133.2))) = some r := h
  clear h
  replace H := Option.bind_eq_some_iff.mp H
  obtain ⟨⟨t127, t128⟩, A20, H⟩ := H
  replace H : ((spec_l20Rd_pick.f k t127 t128 5).bind fun bt133 => (spec_DrawTxtJoin.l0 k (([] : List ByteArray)) bt133.1 t127 bt133.2)) = some r := H
  have A2 := Aside0.mk A20
  clear A20
  obtain ⟨y130, hy130⟩ : ∃ y_ : List ByteArray, y_ = (([] : List ByteArray)) := ⟨_, rfl⟩
  replace H : ((spec_l20Rd_pick.f k t127 t128 5).bind fun bt133 => (spec_DrawTxtJoin.l0 k y130 bt133.1 t127 bt133.2)) = some r := by first | (rw [hy130]; with_reducible exact H) | (have H2_ := (Option.bind_some _ _).symm.trans H; rw [hy130]; with_reducible exact H2_) | (have H2_ := (Option.bind_some _ _).symm.trans H; with_reducible exact H2_) | with_reducible exact H | (rw [hy130]; exact H) | exact H
  have Ny130 := Aside0.mk hy130
  clear hy130
  replace H := Option.bind_eq_some_iff.mp H
  obtain ⟨⟨t133, t134⟩, A30, H⟩ := H
  replace H : (spec_DrawTxtJoin.l0 k y130 t133 t127 t134) = some r := H
  have A3 := Aside0.mk A30
  clear A30
  have H' := Aside0.mk H
  clear H
  go_enter Try.func4, Try.ntmps4
  go_wp2_with (first | ((with_reducible refine gate_callee (f := 7) rfl ?_); refine goesL_ (some 7) rfl rfl Try.func7 (by kernel_rfl) rfl #[.slice A0 l0.length c0] rfl (by (try simp only [List.map_toArray, List.map_cons, List.map_nil]); first | done | rfl | (simp only [List.length_drop, List.length_take]; rfl)) ?_; (with_reducible refine (spec_l20Open.calls _ _ l0 t127 t128 w _ ?side1 ?side2 ?side3 A2.out).mono ?_); (case side1 => repeat (first | (with_reducible first | exact HB.out | apply below_alloc | apply pw_below_drewN | apply below_drew1) | exact HB.out)); (case side2 => exact HR0.out); (case side3 => exact HC0.out); rintro e w4 ⟨g129, rfl, hi, hb, hb2⟩; refine ⟨_, rfl, ?_⟩; have n0_ := Aside0.mk (hb); have n1_ := Aside0.mk (hi); clear HB; have HB := n0_; have HI129 := n1_; clear n0_ n1_; (try clear hb); (try clear hb2); (try clear hk); (try clear hi)) | ((with_reducible refine gate_dst (N := 8) rfl ?_); refine Kd.R_lit Kd.string _ 9 ?hg (N := 8) ?hd (xs := ([] : List ByteArray)) (inner := []) (ok := fun _ => True) (okp := fun _ => True) ?hr ?hp (fun _ hk => hk) trivial (Below.refl _ _) (Nat.le_refl _) (by simp) ?_; (case hd => rfl); (case hg => rfl); (case hr => first | (go_simp; done) | (go_simp; rfl)); (case hp => exact (Reps.none _ _)); intro v131 w5 ho6 hb hg_ hnew_; clear hg_ hnew_; (first | rw [← Ny130.out] at ho6 | (simp only [Int.reduceToNat] at ho6; rw [← Ny130.out] at ho6)); have n0_ := Aside0.mk (Kd.R_lower ho6 (below_size (by repeat (first | (with_reducible first | exact HB.out | apply below_alloc | apply pw_below_drewN | apply below_drew1 | refine below_set ?_ (IsS33.ge HI129.out)) | exact HB.out)))); have n1_ := Aside0.mk (IsS33.below (by repeat (first | (with_reducible first | exact HI129.out | apply IsS33.alloc | apply IsS33.drewN | apply IsS33.drew | apply IsS33.set_1) | exact HI129.out)) hb); have n2_ := Aside0.mk (below_step (by repeat (first | (with_reducible first | exact HB.out | apply below_alloc | apply pw_below_drewN | apply below_drew1 | refine below_set ?_ (IsS33.ge HI129.out)) | exact HB.out)) hb); clear HI129; clear HB; have HO132 := n0_; have HI129 := n1_; have HB := n2_; clear n0_ n1_ n2_; clear hb ho6) | ((with_reducible refine gate_callee (f := 8) rfl ?_); refine goesL_ (some 10) rfl rfl Try.func8 (by kernel_rfl) rfl #[.pointer (some ⟨g129, 0, none⟩), .int .i64 5] rfl (by (try simp only [List.map_toArray, List.map_cons, List.map_nil]); first | done | rfl | (simp only [List.length_drop, List.length_take]; rfl)) ?_; (with_reducible refine (spec_l20Rd_pick.calls k g129 t127 t128 5 t133 t134 w _ ?side1 ?side2 A3.out).mono ?_); (case side1 => repeat (first | (with_reducible first | exact HI129.out | apply IsS33.alloc | apply IsS33.drewN | apply IsS33.drew | apply IsS33.set_1) | exact HI129.out)); (case side2 => repeat (first | (with_reducible first | exact HB.out | apply below_alloc | apply pw_below_drewN | apply below_drew1 | refine below_set ?_ (IsS33.ge HI129.out)) | exact HB.out)); rintro e w7 ⟨rfl, hi, hb, hk⟩; refine ⟨_, rfl, ?_⟩; have n0_ := Aside0.mk (Kd.R_mono (Kd.R_keep (IsS33.apart (show IsS33 w _ g129 t127 t128 from by repeat (first | (with_reducible first | exact HI129.out | apply IsS33.alloc | apply IsS33.drewN | apply IsS33.drew | apply IsS33.set_1) | exact HI129.out)) (by (with_reducible repeat (first | apply Kd.R_alloc | apply Kd.R_drewN | apply Kd.R_drew)); exact HO132.out) (by decide)) hk (fun _ h => h.2)) (fun _ h => h.1)); have n1_ := Aside0.mk (hb); have n2_ := Aside0.mk (hi); clear HO132; clear HB; clear HI129; have HO132 := n0_; have HB := n1_; have HI129 := n2_; clear n0_ n1_ n2_; (try clear hb); (try clear hb2); (try clear hk); (try clear hi)))
  go_loopg [4, 5] k (fun kq v4 v5 w' => ∃ (x4_1 : List ByteArray) (x5_1 : Int) (x130001_1 : Int), v5 = .int .i64 x5_1 ∧ Aside0 (spec_DrawTxtJoin.l0 kq x4_1 x5_1 t127 x130001_1 = some r) ∧ Aside0 (kq ≤ k) ∧ Aside0 (Kd.R Kd.string 9 w' w.heap.size (fun _ => True) v4 x4_1) ∧ Aside0 (IsS33 w w' g129 t127 x130001_1) ∧ Aside0 (Below w.heap.size w w'))
  case atStart => exact ⟨(y130), (t133), (t134), (by first | rfl | (simp; done) | (simp [*]; done)), H', ⟨Nat.le_refl _⟩, ⟨by (with_reducible repeat (first | apply Kd.R_alloc | apply Kd.R_drewN | apply Kd.R_drew)); exact HO132.out⟩, ⟨by repeat (first | (with_reducible first | exact HI129.out | apply IsS33.alloc | apply IsS33.drewN | apply IsS33.drew | apply IsS33.set_1) | exact HI129.out)⟩, ⟨by repeat (first | (with_reducible first | exact HB.out | apply below_alloc | apply pw_below_drewN | apply below_drew1 | refine below_set ?_ (IsS33.ge HI129.out)) | exact HB.out)⟩⟩
  case round =>
    clear H'
    try clear p2
    try clear c4
    try clear c7
    obtain ⟨x4_1, x5_1, x130001_1, rfl, HA, HK1, HO_4, HI129, HB⟩ := hrel
    cases gk with
    | zero => exact absurd HA.out (by simp [spec_DrawTxtJoin.l0])
    | succ k1 =>
      have H := HA.out
      clear HA
      simp only [spec_DrawTxtJoin.l0] at H
      by_cases c8 : x5_1 > 0
      · rw [if_pos c8] at H
        have c8b0 : decide (0 < x5_1) = true := decide_eq_true c8
        clear c8
        replace H := Option.bind_eq_some_iff.mp H
        obtain ⟨⟨t135, t136⟩, A90, H⟩ := H
        replace H : (if x4_1.length < 8796093022208 then (spec_DrawTxtJoin.l0 k1 (x4_1 ++ [t135]) (wrap64 (x5_1 - 1)) t127 t136) else (none)) = some r := H
        have A9 := Aside0.mk A90
        clear A90
        by_cases c10 : x4_1.length < 8796093022208
        · rw [if_pos c10] at H
          have LMc10 := Aside0.mk c10
          clear c10
          obtain ⟨y137, hy137⟩ : ∃ y_ : List ByteArray, y_ = (x4_1 ++ [t135]) := ⟨_, rfl⟩
          replace H : (spec_DrawTxtJoin.l0 k1 y137 (wrap64 (x5_1 - 1)) t127 t136) = some r := by first | (rw [hy137]; with_reducible exact H) | (have H2_ := (Option.bind_some _ _).symm.trans H; rw [hy137]; with_reducible exact H2_) | (have H2_ := (Option.bind_some _ _).symm.trans H; with_reducible exact H2_) | with_reducible exact H | (rw [hy137]; exact H) | exact H
          have Ny137 := Aside0.mk hy137
          clear hy137
          have H' := Aside0.mk H
          clear H
          go_wp2_with (first | ((with_reducible refine gate_callee (f := 9) rfl ?_); refine goesL_ (some 17) rfl rfl Try.func9 (by kernel_rfl) rfl #[.pointer (some ⟨g129, 0, none⟩), .int .i64 8] rfl (by (try simp only [List.map_toArray, List.map_cons, List.map_nil]); first | done | rfl | (simp only [List.length_drop, List.length_take]; rfl)) ?_; (with_reducible refine (spec_l20AnyText.calls k1 g129 t127 x130001_1 8 t135 t136 w _ ?side1 ?side2 A9.out).mono ?_); (case side1 => repeat (first | (with_reducible first | exact HI129.out | apply IsS33.alloc | apply IsS33.drewN | apply IsS33.drew | apply IsS33.set_1) | exact HI129.out)); (case side2 => repeat (first | (with_reducible first | exact HB.out | apply below_alloc | apply pw_below_drewN | apply below_drew1 | refine below_set ?_ (IsS33.ge HI129.out)) | exact HB.out)); rintro e w11 ⟨rfl, hi, hb, hk⟩; refine ⟨_, rfl, ?_⟩; have n0_ := Aside0.mk (Kd.R_mono (Kd.R_keep (IsS33.apart (show IsS33 w _ g129 t127 x130001_1 from by repeat (first | (with_reducible first | exact HI129.out | apply IsS33.alloc | apply IsS33.drewN | apply IsS33.drew | apply IsS33.set_1) | exact HI129.out)) (by (with_reducible repeat (first | apply Kd.R_alloc | apply Kd.R_drewN | apply Kd.R_drew)); exact HO_4.out) (by decide)) hk (fun _ h => h.2)) (fun _ h => h.1)); have n1_ := Aside0.mk (hb); have n2_ := Aside0.mk (hi); clear HO_4; clear HB; clear HI129; have HO_4 := n0_; have HB := n1_; have HI129 := n2_; clear n0_ n1_ n2_; (try clear hb); (try clear hb2); (try clear hk); (try clear hi)) | ((with_reducible refine gate_builtin (b := .append) (xs := #[.tmp 15, .tmp 18]) rfl ?_); at_builtin; refine Kd.R_append Kd.string (w0 := w) w.heap.size rfl (.tmp 15) (.tmp 18) 23 9 (.string ⟨#[]⟩) 16 rfl Try.underlying23 info9 rfl (by decide) (by omega) u4 x4_1 t135 [.string t135] (fun _ => True) (fun _ => False) rfl rfl ?aP (fun _ hk => hk.elim) ?aF ?aO ?aB ?aS ?aL ?_; (case aP => exact rfl); (case aB => exact (by repeat (first | (with_reducible first | exact HB.out | apply below_alloc | apply pw_below_drewN | apply below_drew1 | refine below_set ?_ (IsS33.ge HI129.out)) | exact HB.out))); (case aF => exact (fun _ _ => trivial)); (case aO => exact (by (with_reducible repeat (first | apply Kd.R_alloc | apply Kd.R_drewN | apply Kd.R_drew)); exact HO_4.out)); (case aS => exact (below_size (by repeat (first | (with_reducible first | exact HB.out | apply below_alloc | apply pw_below_drewN | apply below_drew1 | refine below_set ?_ (IsS33.ge HI129.out)) | exact HB.out)))); (case aL => have := LMc10.out; omega); intro v138 w12 ho hb hg hat; rw [← Ny137.out] at ho; have n0_ := Aside0.mk (IsS33.grown (by repeat (first | (with_reducible first | exact HI129.out | apply IsS33.alloc | apply IsS33.drewN | apply IsS33.drew | apply IsS33.set_1) | exact HI129.out)) hg (IsS33.own_ne HI129.out HO_4.out (by decide))); have n1_ := Aside0.mk (hb); have n2_ := Aside0.mk (ho); clear HI129; clear HB; clear HO_4; have HI129 := n0_; have HB := n1_; have HO139 := n2_; clear n0_ n1_ n2_; clear ho hb hg hat))
          go_roundg k1
          case measure => have := HK1.out; omega
          case rel => exact ⟨(y137), (wrap64 (x5_1 - 1)), (t136), (by first | rfl | (simp; done) | (simp [*]; done)), H', ⟨by have := HK1.out; omega⟩, ⟨by (with_reducible repeat (first | apply Kd.R_alloc | apply Kd.R_drewN | apply Kd.R_drew)); exact HO139.out⟩, ⟨by repeat (first | (with_reducible first | exact HI129.out | apply IsS33.alloc | apply IsS33.drewN | apply IsS33.drew | apply IsS33.set_1) | exact HI129.out)⟩, ⟨by repeat (first | (with_reducible first | exact HB.out | apply below_alloc | apply pw_below_drewN | apply below_drew1 | refine below_set ?_ (IsS33.ge HI129.out)) | exact HB.out)⟩⟩
        · rw [if_neg c10] at H
          exact absurd H (by simp)
      · rw [if_neg c8] at H
        have c8b0 : decide (0 < x5_1) = false := decide_eq_false c8
        clear c8
        obtain rfl := Option.some.inj H
        go_wp2
        go_ret
        exact ⟨_, by first | rfl | (simp [errW_none, errW_some] <;> rfl) | (simp [*, errW_none, errW_some] <;> rfl), by (with_reducible repeat (first | apply Kd.R_alloc | apply Kd.R_drewN | apply Kd.R_drew)); exact HO_4.out, by repeat (first | (with_reducible first | exact HB.out | apply below_alloc | apply pw_below_drewN | apply below_drew1 | refine below_set ?_ (IsS33.ge HI129.out)) | exact HB.out)⟩
end Go.Proofs.Ytldmepofbkcmnaa.Pr
