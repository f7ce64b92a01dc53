/- A part of what the claim of 'FnTxtMore' leans on. -/
import Derived.Test.YtldmepofbkcmnaaDoorFnTxtMorePr0
import Derived.Test.YtldmepofbkcmnaaDoorFnTxtMorePr38
import Derived.Test.YtldmepofbkcmnaaDoorFnTxtMorePr34
import Derived.Test.YtldmepofbkcmnaaDoorFnTxtMorePr35
namespace Go.Proofs.YtldmepofbkcmnaaDoor.Pr
open Go.RowKit Go.Proofs.YtldmepofbkcmnaaDoorW.PrintWords Go.Proofs.YtldmepofbkcmnaaDoorW.PrintLast Go.Proofs.YtldmepofbkcmnaaDoorW.PrintMore
attribute [local go_sem] max2_int min2_int max_two min_two max_three min_three max_four min_four
set_option linter.unusedVariables false
set_option linter.unusedSimpArgs false
def spec_DrawTxtLines.f (k : Nat) (l0 : List Int) : Option (ByteArray × Int) := (spec_l20Open.f l0).bind fun bt192 => ((spec_l20AnyText.f k bt192.1 bt192.2 12).bind fun bt195 => ((spec_l20Rd_pick.f k bt192.1 bt195.2 31).bind fun bt197 => ((some (([0, 1, 4, 8, 12, 20, 30, (-1), bt197.1] : List Int) : List Int)).bind fun y199 => ((spec_l20Rd_pick.f k bt192.1 bt197.2 9).bind fun bt202 => (if 0 ≤ bt202.1 then (if bt202.1 < (y199.length : Int) then (some (bt195.1, rd y199 bt202.1)) else (none)) else (none))))))
theorem spec_DrawTxtLines.mono : ∀ a0 k, LeO (spec_DrawTxtLines.f k a0) (spec_DrawTxtLines.f (k + 1) a0) := by
  intro a0 k
  unfold spec_DrawTxtLines.f
  repeat' first
      | (with_reducible exact spec_l20AnyText.mono _ _ _ _)
      | (with_reducible exact spec_l20Rd_pick.mono _ _ _ _)
      | (with_reducible exact LeO.refl _)
      | (with_reducible exact LeO.none _)
      | (with_reducible refine LeO.ite ?_ ?_)
      | (with_reducible refine LeO.bind ?_ (fun _ => ?_))
      | exact spec_l20AnyText.mono _ _ _ _
      | exact spec_l20Rd_pick.mono _ _ _ _
      | exact LeO.none _
      | refine LeO.ite ?_ ?_
      | refine LeO.bind ?_ (fun _ => ?_)
def spec_DrawTxtLines.T2 : Bool × List (List Nat × List Nat) := (true, [([], []), ([0], [0]), ([], []), ([2, 1], [2]), ([3], [3]), ([], []), ([5, 3], [5]), ([4, 6], [4, 6]), ([7], [7]), ([1, 6, 0, 1], [1]), ([8, 9, 0, 1, 2, 3, 4, 5, 6, 7, 8, 9], [8])])
def spec_DrawTxtLines.B2 : List Nat := [0, 1, 0, 7, 15, 0, 47, 127, 255, 111, 1023]
theorem spec_DrawTxtLines.tab2 : rtab .any (opsOf Tryd.f18 2) = spec_DrawTxtLines.T2 := by kernel_rfl
theorem spec_DrawTxtLines.bits2 : waitsOk spec_DrawTxtLines.T2.2 spec_DrawTxtLines.B2 = true := by kernel_rfl
set_option maxHeartbeats 8000000 in
set_option maxRecDepth 100000 in
theorem spec_DrawTxtLines.calls (k : Nat) (A0 : Option Addr) (c0 : Nat) (l0 : List Int) (r1 : ByteArray) (r2 : Int) (w : World) (hr0 : Kd.C (Kd.int .u8) w A0 l0.length l0) (hc0 : l0.length ≤ c0) (h : spec_DrawTxtLines.f k l0 = some (r1, r2)) :
    Calls Tryd.prog 18 #[.slice A0 l0.length c0] w fun e w' => e = .returned (.tuple #[.string r1, .int .i64 r2]) ∧ Below w.heap.size w w' := by
  have HR0 := Aside0.mk hr0
  have HC0 := Aside0.mk hc0
  clear hr0 hc0
  have HB := Aside0.mk (Below.refl w.heap.size w)
  have H : ((spec_l20Open.f l0).bind fun bt192 => ((spec_l20AnyText.f k bt192.1 bt192.2 12).bind fun bt195 => ((spec_l20Rd_pick.f k bt192.1 bt195.2 31).bind fun bt197 => ((some (([0, 1, 4, 8, 12, 20, 30, (-1), bt197.1] : List Int) : List Int)).bind fun y199 => ((spec_l20Rd_pick.f k bt192.1 bt197.2 9).bind fun bt202 => (if 0 ≤ bt202.1 then (if bt202.1 < (y199.length : Int) then (some (bt195.1, rd y199 bt202.1)) else (none)) else (none))))))) = some (r1, r2) := h
  clear h
  replace H := Option.bind_eq_some_iff.mp H
  obtain ⟨⟨t192, t193⟩, A20, H⟩ := H
  replace H : ((spec_l20AnyText.f k t192 t193 12).bind fun bt195 => ((spec_l20Rd_pick.f k t192 bt195.2 31).bind fun bt197 => ((some (([0, 1, 4, 8, 12, 20, 30, (-1), bt197.1] : List Int) : List Int)).bind fun y199 => ((spec_l20Rd_pick.f k t192 bt197.2 9).bind fun bt202 => (if 0 ≤ bt202.1 then (if bt202.1 < (y199.length : Int) then (some (bt195.1, rd y199 bt202.1)) else (none)) else (none)))))) = some (r1, r2) := H
  have A2 := Aside0.mk A20
  clear A20
  replace H := Option.bind_eq_some_iff.mp H
  obtain ⟨⟨t195, t196⟩, A30, H⟩ := H
  replace H : ((spec_l20Rd_pick.f k t192 t196 31).bind fun bt197 => ((some (([0, 1, 4, 8, 12, 20, 30, (-1), bt197.1] : List Int) : List Int)).bind fun y199 => ((spec_l20Rd_pick.f k t192 bt197.2 9).bind fun bt202 => (if 0 ≤ bt202.1 then (if bt202.1 < (y199.length : Int) then (some (t195, rd y199 bt202.1)) else (none)) else (none))))) = some (r1, r2) := H
  have A3 := Aside0.mk A30
  clear A30
  replace H := Option.bind_eq_some_iff.mp H
  obtain ⟨⟨t197, t198⟩, A40, H⟩ := H
  replace H : ((some (([0, 1, 4, 8, 12, 20, 30, (-1), t197] : List Int) : List Int)).bind fun y199 => ((spec_l20Rd_pick.f k t192 t198 9).bind fun bt202 => (if 0 ≤ bt202.1 then (if bt202.1 < (y199.length : Int) then (some (t195, rd y199 bt202.1)) else (none)) else (none)))) = some (r1, r2) := H
  have A4 := Aside0.mk A40
  clear A40
  obtain ⟨y199, hy199⟩ : ∃ y_ : List Int, y_ = (([0, 1, 4, 8, 12, 20, 30, (-1), t197] : List Int)) := ⟨_, rfl⟩
  replace H : ((spec_l20Rd_pick.f k t192 t198 9).bind fun bt202 => (if 0 ≤ bt202.1 then (if bt202.1 < (y199.length : Int) then (some (t195, rd y199 bt202.1)) else (none)) else (none))) = some (r1, r2) := by first | (rw [hy199]; with_reducible exact H) | (have H2_ := (Option.bind_some _ _).symm.trans H; rw [hy199]; with_reducible exact H2_) | (have H2_ := (Option.bind_some _ _).symm.trans H; with_reducible exact H2_) | with_reducible exact H | (rw [hy199]; exact H) | exact H
  have Ny199 := Aside0.mk hy199
  clear hy199
  replace H := Option.bind_eq_some_iff.mp H
  obtain ⟨⟨t202, t203⟩, A50, H⟩ := H
  replace H : (if 0 ≤ t202 then (if t202 < (y199.length : Int) then (some (t195, rd y199 t202)) else (none)) else (none)) = some (r1, r2) := H
  have A5 := Aside0.mk A50
  clear A50
  by_cases c6 : 0 ≤ t202
  · rw [if_pos c6] at H
    have c6b0 : decide (0 ≤ t202) = true := decide_eq_true c6
    clear c6
    by_cases c7 : t202 < (y199.length : Int)
    · rw [if_pos c7] at H
      have c7b0 : decide (t202 < (y199.length : Int)) = true := decide_eq_true c7
      clear c7
      simp only [Option.some.injEq, Prod.mk.injEq] at H
      obtain ⟨rfl, rfl⟩ := H
      go_enter Tryd.func18, Tryd.ntmps18
      try go_wp2_with (first | ((with_reducible refine gate_callee (f := 35) rfl ?_); refine goesL_ (some 6) rfl rfl Tryd.func35 (by kernel_rfl) rfl #[.slice A0 l0.length c0] rfl (by (try simp only [List.map_toArray, List.map_cons, List.map_nil]); first | done | rfl | (simp only [List.length_drop, List.length_take]; rfl)) ?_; (with_reducible refine (spec_l20Open.calls _ _ l0 t192 t193 w _ ?side1 ?side2 ?side3 A2.out).mono ?_); (case side1 => repeat (first | (with_reducible first | exact HB.out | apply below_alloc | apply pw_below_drewN | apply below_drew1) | exact HB.out)); (case side2 => exact HR0.out); (case side3 => exact HC0.out); rintro e w8 ⟨g194, rfl, hi, hb, hb2⟩; refine ⟨_, rfl, ?_⟩; have n0_ := Aside0.mk (hb); have n1_ := Aside0.mk (hi); clear HB; have HB := n0_; have HI194 := n1_; clear n0_ n1_; (try clear hb); (try clear hb2); (try clear hk); (try clear hi)))
      have pi204 : (0 ≤ (t202 : Int)) = True := eq_true (of_decide_eq_true (by first | (with_reducible assumption) | assumption))
      have qi204 : (t202 < (y199.length : Int)) = True := eq_true (of_decide_eq_true (by first | (with_reducible assumption) | assumption))
      have n0_ := Aside0.mk (IsS62.drew HI194.out)
      have n1_ := Aside0.mk (below_drew1 HB.out)
      clear HI194
      clear HB
      have HI194 := n0_
      have HB := n1_
      clear n0_ n1_
      refine start_ (n := 11) (S := fun w' => True) (ds := []) #[false, false, false, false, false, false, false, false, false, false, false] (by kernel_rfl) rfl rfl trivial (fun hHeld => ?_); refine with_tabW spec_DrawTxtLines.tab2 spec_DrawTxtLines.bits2 (fun HT_ HW_ => ?_)
      generalize w8.drew = w9 at HI194 HB hHeld ⊢
      refine pure_ (i := 0) (N := some 7) (v := ?_) (a' := ?_) #[true, false, false, false, false, false, false, false, false, false, false] rfl rfl (any_of HT_.out (by kernel_rfl)) (fun _ _ _ h => h) (Or.inl ⟨by rfl, ?_⟩) ?_ ?_
      rotate_left
      · intro w'
        go_simp
        with_reducible rfl
      rotate_left
      · simp only [Act.put, List.setIfInBounds_toArray, List.set_cons_zero, List.set_cons_succ, i64_w, i32_w]
        rfl
      refine pure_ (i := 2) (N := some 9) (v := ?_) (a' := ?_) #[true, false, true, false, false, false, false, false, false, false, false] rfl rfl (any_of HT_.out (by kernel_rfl)) (fun _ _ _ h => h) (Or.inl ⟨by rfl, ?_⟩) ?_ ?_
      rotate_left
      · intro w'
        go_simp
        with_reducible rfl
      rotate_left
      · simp only [Act.put, List.setIfInBounds_toArray, List.set_cons_zero, List.set_cons_succ, i64_w, i32_w]
        rfl
      refine pure_ (i := 5) (N := some 12) (v := ?_) (a' := ?_) #[true, false, true, false, false, true, false, false, false, false, false] rfl rfl (any_of HT_.out (by kernel_rfl)) (fun _ _ _ h => h) (Or.inl ⟨by rfl, ?_⟩) ?_ ?_
      rotate_left
      · intro w'
        go_simp
        with_reducible rfl
      rotate_left
      · simp only [Act.put, List.setIfInBounds_toArray, List.set_cons_zero, List.set_cons_succ, i64_w, i32_w]
        rfl
      refine inv_at [1, 3, 4, 6, 7, 8, 9, 10] (fun a0_ b a w' => ∃ (v200 : Value) (adz_v200 : Addr) (m7_ : Value), a = putSel a0_ b [(1, 8, .string t195), (3, 10, .int .i64 t197), (4, 11, v200), (6, 13, .int .i64 t202), (7, 14, m7_), (8, 15, .int .i64 (rd y199 t202)), (9, 2, .string t195), (10, 3, .int .i64 (rd y199 t202))] ∧ (b 1 = false → IsS62 w w' g194 t192 t193) ∧ (Below w.heap.size w w') ∧ (b 1 = true → b 3 = false → IsS62 w w' g194 t192 t196) ∧ (b 3 = true → b 6 = false → IsS62 w w' g194 t192 t198) ∧ (b 4 = true → Kd.R (Kd.int .i64) 3 w' w.heap.size (fun _ => True) v200 y199) ∧ (b 4 = true → ∃ c_, (v200 : Value) = .slice (some adz_v200) y199.length c_) ∧ (b 6 = true → IsS62 w w' g194 t192 t203) ∧ (b 7 = true → (m7_ : Value) = .pointer (some (adz_v200.add (t202).toNat)))) HT_.out HW_.out (by kernel_rfl) (by kernel_rfl) ?_ ?_ ?_
      · exact ⟨.bool false, ⟨0, 0, none⟩, .bool false, by simp only [putSel, Bool.false_eq_true, if_false], fun _ => HI194.out, HB.out, fun h_ => absurd h_ (by decide), fun h_ => absurd h_ (by decide), fun h_ => absurd h_ (by decide), fun h_ => absurd h_ (by decide), fun h_ => absurd h_ (by decide), fun h_ => absurd h_ (by decide)⟩
      · skip
        clear HB HI194
        refine steps_cons ?_ ?_
        · rintro b a w' ⟨v200, adz_v200, m7_, ha, Q_HI194, Q_HB, Q_HI194_e1, Q_HI194_e3, Q_HO201, Q_HA_HO201, Q_HI194_e6, Q_X7_⟩ hb_ hon hoff
          refine ⟨_, rfl, fun K hK => ?_⟩
          have e7 : a.tmps[7]? = some (.pointer (some ⟨g194, 0, none⟩)) := by rw [ha]; exact (putSel_off rfl).trans rfl
          replace ha := Aside0.mk ha
          have HI194 := Aside0.mk (Q_HI194 hb_)
          have HB := Aside0.mk Q_HB
          refine goes_ Tryd.func34 (by kernel_rfl) rfl #[.pointer (some ⟨g194, 0, none⟩), .int .i64 12] (by rfl) rfl rfl (by first | (simp only [List.map_toArray, List.map_cons, List.map_nil, Act.eval, Array.getD_eq_getD_getElem?, Option.getD_some, e7]; done) | (simp only [List.map_toArray, List.map_cons, List.map_nil, Act.eval, Array.getD_eq_getD_getElem?, Option.getD_some, e7]; rfl)) ?_
          with_reducible refine (spec_l20AnyText.calls k g194 t192 t193 12 t195 t196 w _ ?side1 ?side2 A3.out).mono ?_
          (case side1 => repeat (first | (with_reducible first | exact HI194.out | apply IsS62.alloc | apply IsS62.drewN | apply IsS62.drew | apply IsS62.set_1) | exact HI194.out))
          (case side2 => repeat (first | (with_reducible first | exact HB.out | apply below_alloc | apply pw_below_drewN | apply below_drew1 | refine below_set ?_ (IsS62.ge HI194.out)) | exact HB.out))
          rintro e w10 ⟨rfl, hi, hb, hk⟩
          refine ⟨_, rfl, ?_⟩
          have n0_ := Aside0.mk (hb)
          have n1_ := Aside0.mk (hi)
          clear HB
          clear HI194
          have HB := n0_
          have HI194 := n1_
          clear n0_ n1_
          (try clear hb)
          (try clear hb2)
          (try clear hk)
          (try clear hi)
          refine hK.out _ _ ⟨v200, adz_v200, m7_, (by rw [ha.out]; exact putSel_upk 0 hb_ rfl rfl rfl), fun h0_ => absurd ((up_self b 1).symm.trans h0_) (by decide), (by repeat (first | (with_reducible first | exact HB.out | apply below_alloc | apply pw_below_drewN | apply below_drew1 | refine below_set ?_ (IsS62.ge HI194.out)) | exact HB.out)), fun _ _ => (by repeat (first | (with_reducible first | exact HI194.out | apply IsS62.alloc | apply IsS62.drewN | apply IsS62.drew | apply IsS62.set_1) | exact HI194.out)), fun h0_ _ => absurd ((hoff 3 (by kernel_rfl)).symm.trans h0_) (by decide), fun h0_ => absurd ((hoff 4 (by kernel_rfl)).symm.trans h0_) (by decide), fun h0_ => absurd ((hoff 4 (by kernel_rfl)).symm.trans h0_) (by decide), fun h0_ => absurd ((hoff 6 (by kernel_rfl)).symm.trans h0_) (by decide), fun h0_ => absurd ((hoff 7 (by kernel_rfl)).symm.trans h0_) (by decide)⟩
        refine steps_cons ?_ ?_
        · rintro b a w' ⟨v200, adz_v200, m7_, ha, Q_HI194, Q_HB, Q_HI194_e1, Q_HI194_e3, Q_HO201, Q_HA_HO201, Q_HI194_e6, Q_X7_⟩ hb_ hon hoff
          refine ⟨_, rfl, fun K hK => ?_⟩
          have e9 : a.tmps[9]? = some (.pointer (some ⟨g194, 0, none⟩)) := by rw [ha]; exact (putSel_off rfl).trans rfl
          replace ha := Aside0.mk ha
          have HB := Aside0.mk Q_HB
          have HI194 := Aside0.mk (Q_HI194_e1 (hon 1 (by kernel_rfl)) hb_)
          refine goes_ Tryd.func38 (by kernel_rfl) rfl #[.pointer (some ⟨g194, 0, none⟩), .int .i64 31] (by rfl) rfl rfl (by first | (simp only [List.map_toArray, List.map_cons, List.map_nil, Act.eval, Array.getD_eq_getD_getElem?, Option.getD_some, e9]; done) | (simp only [List.map_toArray, List.map_cons, List.map_nil, Act.eval, Array.getD_eq_getD_getElem?, Option.getD_some, e9]; rfl)) ?_
          with_reducible refine (spec_l20Rd_pick.calls k g194 t192 t196 31 t197 t198 w _ ?side1 ?side2 A4.out).mono ?_
          (case side1 => repeat (first | (with_reducible first | exact HI194.out | apply IsS62.alloc | apply IsS62.drewN | apply IsS62.drew | apply IsS62.set_1) | exact HI194.out))
          (case side2 => repeat (first | (with_reducible first | exact HB.out | apply below_alloc | apply pw_below_drewN | apply below_drew1 | refine below_set ?_ (IsS62.ge HI194.out)) | exact HB.out))
          rintro e w12 ⟨rfl, hi, hb, hk⟩
          refine ⟨_, rfl, ?_⟩
          have n0_ := Aside0.mk (hb)
          have n1_ := Aside0.mk (hi)
          clear HB
          clear HI194
          have HB := n0_
          have HI194 := n1_
          clear n0_ n1_
          (try clear hb)
          (try clear hb2)
          (try clear hk)
          (try clear hi)
          refine hK.out _ _ ⟨v200, adz_v200, m7_, (by rw [ha.out]; exact putSel_upk 1 hb_ rfl rfl rfl), fun h0_ => absurd ((hon 1 (by kernel_rfl)).symm.trans h0_) (by decide), (by repeat (first | (with_reducible first | exact HB.out | apply below_alloc | apply pw_below_drewN | apply below_drew1 | refine below_set ?_ (IsS62.ge HI194.out)) | exact HB.out)), fun _ h1_ => absurd ((up_self b 3).symm.trans h1_) (by decide), fun _ _ => (by repeat (first | (with_reducible first | exact HI194.out | apply IsS62.alloc | apply IsS62.drewN | apply IsS62.drew | apply IsS62.set_1) | exact HI194.out)), fun h0_ => absurd ((hoff 4 (by kernel_rfl)).symm.trans h0_) (by decide), fun h0_ => absurd ((hoff 4 (by kernel_rfl)).symm.trans h0_) (by decide), fun h0_ => absurd ((hoff 6 (by kernel_rfl)).symm.trans h0_) (by decide), fun h0_ => absurd ((hoff 7 (by kernel_rfl)).symm.trans h0_) (by decide)⟩
        refine steps_cons ?_ ?_
        · rintro b a w' ⟨v200, adz_v200, m7_, ha, Q_HI194, Q_HB, Q_HI194_e1, Q_HI194_e3, Q_HO201, Q_HA_HO201, Q_HI194_e6, Q_X7_⟩ hb_ hon hoff
          refine ⟨_, rfl, fun K hK => ?_⟩
          have e10 : a.tmps[10]? = some (.int .i64 t197) := by rw [ha]; exact putSel_on (e := (3, 10, .int .i64 t197)) 1 rfl rfl (hon 3 (by kernel_rfl)) rfl
          replace ha := Aside0.mk ha
          have HB := Aside0.mk Q_HB
          refine Kd.R_lit_step (Kd.int .i64) _ 3 ?hg (N := 11) ?hd (xs := ([0, 1, 4, 8, 12, 20, 30, (-1), t197] : List Int)) (inner := [.int .i64 0, .int .i64 1, .int .i64 4, .int .i64 8, .int .i64 12, .int .i64 20, .int .i64 30, .int .i64 (-1), .int .i64 t197]) (ok := fun _ => True) (okp := fun _ => True) ?hr ?hp (fun _ hk => hk) trivial (Below.refl _ _) (Nat.le_refl _) (by simp) ?_; (case hd => rfl); (case hg => rfl); (case hr => first | (go_simp; done) | (go_simp; rfl)); (case hp => exact (Reps.one (show Kd.M (Kd.int .i64) _ _ _ 0 [.int .i64 0] from rfl) (Reps.one (show Kd.M (Kd.int .i64) _ _ _ 1 [.int .i64 1] from rfl) (Reps.one (show Kd.M (Kd.int .i64) _ _ _ 4 [.int .i64 4] from rfl) (Reps.one (show Kd.M (Kd.int .i64) _ _ _ 8 [.int .i64 8] from rfl) (Reps.one (show Kd.M (Kd.int .i64) _ _ _ 12 [.int .i64 12] from rfl) (Reps.one (show Kd.M (Kd.int .i64) _ _ _ 20 [.int .i64 20] from rfl) (Reps.one (show Kd.M (Kd.int .i64) _ _ _ 30 [.int .i64 30] from rfl) (Reps.one (show Kd.M (Kd.int .i64) _ _ _ (-1) [.int .i64 (-1)] from rfl) (Reps.one (show Kd.M (Kd.int .i64) _ _ _ t197 [.int .i64 t197] from rfl) (Reps.none _ _)))))))))))
          intro v200 w13 ho14 hb hg_ hnew_
          clear hg_ hnew_
          (first | rw [← Ny199.out] at ho14 | (simp only [Int.reduceToNat] at ho14; rw [← Ny199.out] at ho14))
          have n0_ := Aside0.mk (Kd.R_lower ho14 (below_size (by repeat (first | (with_reducible first | exact HB.out | apply below_alloc | apply pw_below_drewN | apply below_drew1) | exact HB.out))))
          have n2_ := Aside0.mk (below_step (by repeat (first | (with_reducible first | exact HB.out | apply below_alloc | apply pw_below_drewN | apply below_drew1) | exact HB.out)) hb)
          have z_HI194_e3 := fun (h0_ : b 3 = true) (h1_ : b 6 = false) => (show IsS62 w w13 g194 t192 t198 from by first | exact (IsS62.below (by repeat (first | (with_reducible first | exact (Q_HI194_e3 h0_ h1_) | apply IsS62.alloc | apply IsS62.drewN | apply IsS62.drew | apply IsS62.set_1) | exact (Q_HI194_e3 h0_ h1_))) hb))
          have z_HI194_e6 := fun (h0_ : b 6 = true) => (show IsS62 w w13 g194 t192 t203 from by first | exact (IsS62.below (by repeat (first | (with_reducible first | exact (Q_HI194_e6 h0_) | apply IsS62.alloc | apply IsS62.drewN | apply IsS62.drew | apply IsS62.set_1) | exact (Q_HI194_e6 h0_))) hb))
          clear HB
          have HO201 := n0_
          have HB := n2_
          clear n0_ n2_
          clear hb ho14
          obtain ⟨Ao15, co15, eo15⟩ := Kd.R_slice HO201.out
          subst eo15
          obtain ⟨ado15, fo15, _⟩ := Kd.at_int (Kd.R_reads' HO201.out).2.2 0 (by decide) (by rw [Ny199.out]; simp)
          cases fo15
          refine hK.out _ _ ⟨.slice (some ado15) y199.length co15, ado15, m7_, (by rw [ha.out]; exact putSel_upk 2 hb_ rfl rfl rfl), fun h0_ => absurd ((hon 1 (by kernel_rfl)).symm.trans h0_) (by decide), (by repeat (first | (with_reducible first | exact HB.out | apply below_alloc | apply pw_below_drewN | apply below_drew1) | exact HB.out)), fun _ h1_ => absurd ((hon 3 (by kernel_rfl)).symm.trans h1_) (by decide), z_HI194_e3, fun _ => (by (with_reducible repeat (first | apply Kd.R_alloc | apply Kd.R_drewN | apply Kd.R_drew)); exact HO201.out), fun _ => ⟨_, rfl⟩, z_HI194_e6, fun h0_ => absurd ((hoff 7 (by kernel_rfl)).symm.trans h0_) (by decide)⟩
        refine steps_cons ?_ ?_
        · rintro b a w' ⟨v200, adz_v200, m7_, ha, Q_HI194, Q_HB, Q_HI194_e1, Q_HI194_e3, Q_HO201, Q_HA_HO201, Q_HI194_e6, Q_X7_⟩ hb_ hon hoff
          refine ⟨_, rfl, fun K hK => ?_⟩
          have e12 : a.tmps[12]? = some (.pointer (some ⟨g194, 0, none⟩)) := by rw [ha]; exact (putSel_off rfl).trans rfl
          replace ha := Aside0.mk ha
          have HB := Aside0.mk Q_HB
          have HI194 := Aside0.mk (Q_HI194_e3 (hon 3 (by kernel_rfl)) hb_)
          refine goes_ Tryd.func38 (by kernel_rfl) rfl #[.pointer (some ⟨g194, 0, none⟩), .int .i64 9] (by rfl) rfl rfl (by first | (simp only [List.map_toArray, List.map_cons, List.map_nil, Act.eval, Array.getD_eq_getD_getElem?, Option.getD_some, e12]; done) | (simp only [List.map_toArray, List.map_cons, List.map_nil, Act.eval, Array.getD_eq_getD_getElem?, Option.getD_some, e12]; rfl)) ?_
          with_reducible refine (spec_l20Rd_pick.calls k g194 t192 t198 9 t202 t203 w _ ?side1 ?side2 A5.out).mono ?_
          (case side1 => repeat (first | (with_reducible first | exact HI194.out | apply IsS62.alloc | apply IsS62.drewN | apply IsS62.drew | apply IsS62.set_1) | exact HI194.out))
          (case side2 => repeat (first | (with_reducible first | exact HB.out | apply below_alloc | apply pw_below_drewN | apply below_drew1 | refine below_set ?_ (IsS62.ge HI194.out)) | exact HB.out))
          rintro e w13 ⟨rfl, hi, hb, hk⟩
          refine ⟨_, rfl, ?_⟩
          have n0_ := Aside0.mk (hb)
          have n1_ := Aside0.mk (hi)
          have z_HO201 := fun (h0_ : b 4 = true) => (show Kd.R (Kd.int .i64) 3 w13 w.heap.size (fun _ => True) v200 y199 from by first | exact (Kd.R_mono (Kd.R_keep (IsS62.apart (show IsS62 w _ g194 t192 t198 from by repeat (first | (with_reducible first | exact HI194.out | apply IsS62.alloc | apply IsS62.drewN | apply IsS62.drew | apply IsS62.set_1) | exact HI194.out)) (by (with_reducible repeat (first | apply Kd.R_alloc | apply Kd.R_drewN | apply Kd.R_drew)); exact (Q_HO201 h0_)) (by decide)) hk (fun _ h => h.2)) (fun _ h => h.1)) | exact Kd.R_mono (Kd.R_mono (Kd.R_keep (IsS62.apart (show IsS62 w _ g194 t192 t198 from by repeat (first | (with_reducible first | exact HI194.out | apply IsS62.alloc | apply IsS62.drewN | apply IsS62.drew | apply IsS62.set_1) | exact HI194.out)) (by (with_reducible repeat (first | apply Kd.R_alloc | apply Kd.R_drewN | apply Kd.R_drew)); exact (Q_HO201 h0_)) (by decide)) hk (fun _ h => h.2)) (fun _ h => h.1)) (fun _ h_ => by first | trivial | exact h_ | exact h_.1))
          clear HB
          clear HI194
          have HB := n0_
          have HI194 := n1_
          clear n0_ n1_
          (try clear hb)
          (try clear hb2)
          (try clear hk)
          (try clear hi)
          refine hK.out _ _ ⟨v200, adz_v200, m7_, (by rw [ha.out]; exact putSel_upk 3 hb_ rfl rfl rfl), fun h0_ => absurd ((hon 1 (by kernel_rfl)).symm.trans h0_) (by decide), (by repeat (first | (with_reducible first | exact HB.out | apply below_alloc | apply pw_below_drewN | apply below_drew1 | refine below_set ?_ (IsS62.ge HI194.out)) | exact HB.out)), fun _ h1_ => absurd ((hon 3 (by kernel_rfl)).symm.trans h1_) (by decide), fun _ h1_ => absurd ((up_self b 6).symm.trans h1_) (by decide), z_HO201, Q_HA_HO201, fun _ => (by repeat (first | (with_reducible first | exact HI194.out | apply IsS62.alloc | apply IsS62.drewN | apply IsS62.drew | apply IsS62.set_1) | exact HI194.out)), fun h0_ => absurd ((hoff 7 (by kernel_rfl)).symm.trans h0_) (by decide)⟩
        refine steps_cons ?_ ?_
        · rintro b a w' ⟨v200, adz_v200, m7_, ha, Q_HI194, Q_HB, Q_HI194_e1, Q_HI194_e3, Q_HO201, Q_HA_HO201, Q_HI194_e6, Q_X7_⟩ hb_ hon hoff
          refine ⟨_, rfl, fun K hK => ?_⟩
          have e11 : a.tmps[11]? = some (v200) := by rw [ha]; exact putSel_on (e := (4, 11, v200)) 2 rfl rfl (hon 4 (by kernel_rfl)) rfl
          have e13 : a.tmps[13]? = some (.int .i64 t202) := by rw [ha]; exact putSel_on (e := (6, 13, .int .i64 t202)) 3 rfl rfl (hon 6 (by kernel_rfl)) rfl
          replace ha := Aside0.mk ha
          have HB := Aside0.mk Q_HB
          have HO201 := Aside0.mk (Q_HO201 (hon 4 (by kernel_rfl)))
          have HA_HO201 := Aside0.mk (Q_HA_HO201 (hon 4 (by kernel_rfl)))
          have HI194 := Aside0.mk (Q_HI194_e6 (hon 6 (by kernel_rfl)))
          obtain ⟨c_, hv_⟩ := HA_HO201.out
          rw [hv_] at e11
          refine value_ (w1 := w') (v := .pointer (some (adz_v200.add (t202).toNat))) (by rfl) rfl ?_ ?_
          · go_simp
            (try simp only [i64_w])
            try rfl
          refine hK.out _ _ ⟨v200, adz_v200, (.pointer (some (adz_v200.add (t202).toNat))), (by rw [ha.out]; exact putSel_upk 4 hb_ rfl rfl rfl), fun h0_ => absurd ((hon 1 (by kernel_rfl)).symm.trans h0_) (by decide), Q_HB, fun _ h1_ => absurd ((hon 3 (by kernel_rfl)).symm.trans h1_) (by decide), fun _ h1_ => absurd ((hon 6 (by kernel_rfl)).symm.trans h1_) (by decide), Q_HO201, Q_HA_HO201, Q_HI194_e6, fun _ => rfl⟩
        refine steps_cons ?_ ?_
        · rintro b a w' ⟨v200, adz_v200, m7_, ha, Q_HI194, Q_HB, Q_HI194_e1, Q_HI194_e3, Q_HO201, Q_HA_HO201, Q_HI194_e6, Q_X7_⟩ hb_ hon hoff
          refine ⟨_, rfl, fun K hK => ?_⟩
          have e14 : a.tmps[14]? = some (m7_) := by rw [ha]; exact putSel_on (e := (7, 14, m7_)) 4 rfl rfl (hon 7 (by kernel_rfl)) rfl
          rw [Q_X7_ (hon 7 (by kernel_rfl))] at e14
          replace ha := Aside0.mk ha
          have HB := Aside0.mk Q_HB
          have HO201 := Aside0.mk (Q_HO201 (hon 4 (by kernel_rfl)))
          have HA_HO201 := Aside0.mk (Q_HA_HO201 (hon 4 (by kernel_rfl)))
          have HI194 := Aside0.mk (Q_HI194_e6 (hon 6 (by kernel_rfl)))
          obtain ⟨c_, hv_⟩ := HA_HO201.out
          have hF_ := HO201.out
          rw [hv_] at hF_
          obtain ⟨ad_, ea_, hx_⟩ := Kd.at_int (Kd.R_reads' hF_).2.2 t202 (of_eq_true pi204) (of_eq_true qi204)
          cases ea_
          refine value_ (w1 := w') (v := .int .i64 (rd y199 t202)) (by rfl) rfl ?_ ?_
          · go_simp
            (try simp only [i64_w])
            try rfl
          refine hK.out _ _ ⟨v200, adz_v200, m7_, (by rw [ha.out]; exact putSel_upk 5 hb_ rfl rfl rfl), fun h0_ => absurd ((hon 1 (by kernel_rfl)).symm.trans h0_) (by decide), Q_HB, fun _ h1_ => absurd ((hon 3 (by kernel_rfl)).symm.trans h1_) (by decide), fun _ h1_ => absurd ((hon 6 (by kernel_rfl)).symm.trans h1_) (by decide), Q_HO201, Q_HA_HO201, Q_HI194_e6, Q_X7_⟩
        refine steps_cons ?_ ?_
        · rintro b a w' ⟨v200, adz_v200, m7_, ha, Q_HI194, Q_HB, Q_HI194_e1, Q_HI194_e3, Q_HO201, Q_HA_HO201, Q_HI194_e6, Q_X7_⟩ hb_ hon hoff
          refine ⟨_, rfl, fun K hK => ?_⟩
          have e8 : a.tmps[8]? = some (.string t195) := by rw [ha]; exact putSel_on (e := (1, 8, .string t195)) 0 rfl rfl (hon 1 (by kernel_rfl)) rfl
          replace ha := Aside0.mk ha
          have HB := Aside0.mk Q_HB
          have HI194 := Aside0.mk (Q_HI194_e6 (hon 6 (by kernel_rfl)))
          refine value_ (w1 := w') (v := .string t195) (by rfl) rfl ?_ ?_
          · go_simp
            (try simp only [i64_w])
            try rfl
          refine hK.out _ _ ⟨v200, adz_v200, m7_, (by rw [ha.out]; exact putSel_upk 6 hb_ rfl rfl rfl), fun h0_ => absurd ((hon 1 (by kernel_rfl)).symm.trans h0_) (by decide), Q_HB, fun _ h1_ => absurd ((hon 3 (by kernel_rfl)).symm.trans h1_) (by decide), fun _ h1_ => absurd ((hon 6 (by kernel_rfl)).symm.trans h1_) (by decide), Q_HO201, Q_HA_HO201, Q_HI194_e6, Q_X7_⟩
        refine steps_cons ?_ ?_
        · rintro b a w' ⟨v200, adz_v200, m7_, ha, Q_HI194, Q_HB, Q_HI194_e1, Q_HI194_e3, Q_HO201, Q_HA_HO201, Q_HI194_e6, Q_X7_⟩ hb_ hon hoff
          refine ⟨_, rfl, fun K hK => ?_⟩
          have e15 : a.tmps[15]? = some (.int .i64 (rd y199 t202)) := by rw [ha]; exact putSel_on (e := (8, 15, .int .i64 (rd y199 t202))) 5 rfl rfl (hon 8 (by kernel_rfl)) rfl
          replace ha := Aside0.mk ha
          have HB := Aside0.mk Q_HB
          have HO201 := Aside0.mk (Q_HO201 (hon 4 (by kernel_rfl)))
          have HA_HO201 := Aside0.mk (Q_HA_HO201 (hon 4 (by kernel_rfl)))
          have HI194 := Aside0.mk (Q_HI194_e6 (hon 6 (by kernel_rfl)))
          refine value_ (w1 := w') (v := .int .i64 (rd y199 t202)) (by rfl) rfl ?_ ?_
          · go_simp
            (try simp only [i64_w])
            try rfl
          refine hK.out _ _ ⟨v200, adz_v200, m7_, (by rw [ha.out]; exact putSel_upk 7 hb_ rfl rfl rfl), fun h0_ => absurd ((hon 1 (by kernel_rfl)).symm.trans h0_) (by decide), Q_HB, fun _ h1_ => absurd ((hon 3 (by kernel_rfl)).symm.trans h1_) (by decide), fun _ h1_ => absurd ((hon 6 (by kernel_rfl)).symm.trans h1_) (by decide), Q_HO201, Q_HA_HO201, Q_HI194_e6, Q_X7_⟩
        exact steps_nil
      rintro b a w16 hall ⟨v200, adz_v200, m7_, ha, Q_HI194, Q_HB, Q_HI194_e1, Q_HI194_e3, Q_HO201, Q_HA_HO201, Q_HI194_e6, Q_X7_⟩
      clear HB HI194
      have hb1_ := hall 1 (by kernel_rfl)
      have hb3_ := hall 3 (by kernel_rfl)
      have hb4_ := hall 4 (by kernel_rfl)
      have hb6_ := hall 6 (by kernel_rfl)
      have hb7_ := hall 7 (by kernel_rfl)
      have hb8_ := hall 8 (by kernel_rfl)
      have hb9_ := hall 9 (by kernel_rfl)
      have hb10_ := hall 10 (by kernel_rfl)
      subst ha
      obtain rfl := Q_X7_ hb7_
      simp only [putSel, hb1_, hb3_, hb4_, hb6_, hb7_, hb8_, hb9_, hb10_, if_true, Act.put, List.setIfInBounds_toArray, List.set_cons_zero, List.set_cons_succ]
      clear Q_HI194
      have HB := Aside0.mk Q_HB
      clear Q_HB
      clear Q_HI194_e1
      clear Q_HI194_e3
      have HO201 := Aside0.mk (Q_HO201 hb4_)
      clear Q_HO201
      have HA_HO201 := Aside0.mk (Q_HA_HO201 hb4_)
      clear Q_HA_HO201
      have HI194 := Aside0.mk (Q_HI194_e6 hb6_)
      clear Q_HI194_e6
      clear hall hb1_ hb3_ hb4_ hb6_ hb7_ hb8_ hb9_ hb10_
      obtain ⟨co17, eo17⟩ := HA_HO201.out
      clear HA_HO201
      subst eo17
      try go_wp2
      go_ret2
      exact ⟨by first | rfl | (simp [errW_none, errW_some] <;> rfl) | (simp [*, errW_none, errW_some] <;> rfl), by repeat (first | (with_reducible first | exact HB.out | apply below_alloc | apply pw_below_drewN | apply below_drew1 | refine below_set ?_ (IsS62.ge HI194.out)) | exact HB.out)⟩
    · rw [if_neg c7] at H
      exact absurd H (by simp)
  · rw [if_neg c6] at H
    exact absurd H (by simp)
end Go.Proofs.YtldmepofbkcmnaaDoor.Pr
