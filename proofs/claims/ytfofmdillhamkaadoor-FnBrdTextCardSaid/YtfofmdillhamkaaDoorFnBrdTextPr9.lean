/- A part of what the claim of 'FnBrdText' leans on. -/
import Derived.Test.YtfofmdillhamkaaDoorFnBrdTextPr0
import Derived.Test.YtfofmdillhamkaaDoorFnBrdTextPr5
import Derived.Test.YtfofmdillhamkaaDoorFnBrdTextPr18
import Derived.Test.YtfofmdillhamkaaDoorFnBrdTextPr16
import Derived.Test.YtfofmdillhamkaaDoorFnBrdTextPr17
namespace Go.Proofs.YtfofmdillhamkaaDoor.Pr
open Go.RowKit Go.Proofs.YtfofmdillhamkaaDoorW.PrintWords Go.Proofs.YtfofmdillhamkaaDoorW.PrintLast Go.Proofs.YtfofmdillhamkaaDoorW.PrintMore
attribute [local go_sem] max2_int min2_int max_two min_two max_three min_three max_four min_four
set_option linter.unusedVariables false
set_option linter.unusedSimpArgs false
def spec_DrawBrdRead.f (k : Nat) (l0 : List Int) : Option (ByteArray) := (spec_l20Open.f l0).bind fun bt188 => ((spec_l20Brd.f k bt188.1 bt188.2 99).bind fun bt191 => ((spec_BrdText.f k bt191.1 bt191.2.1).bind fun t194 => ((some (([t194, (⟨#[49, 50]⟩ : ByteArray), (⟨#[52]⟩ : ByteArray), (⟨#[]⟩ : ByteArray), (⟨#[52, 48]⟩ : ByteArray), (⟨#[52, 49]⟩ : ByteArray), (⟨#[48, 48]⟩ : ByteArray), (⟨#[120, 49]⟩ : ByteArray), (⟨#[49, 50, 51]⟩ : ByteArray), (⟨#[49, 120]⟩ : ByteArray)] : List ByteArray) : List ByteArray)).bind fun y195 => ((spec_l20Rd_pick.f k bt188.1 bt191.2.2 10).bind fun bt198 => (if 0 ≤ bt198.1 then (if bt198.1 < (y195.length : Int) then (some (rdOf ByteArray.empty y195 bt198.1)) else (none)) else (none))))))
theorem spec_DrawBrdRead.mono : ∀ a0 k, LeO (spec_DrawBrdRead.f k a0) (spec_DrawBrdRead.f (k + 1) a0) := by
  intro a0 k
  unfold spec_DrawBrdRead.f
  repeat' first
      | (with_reducible exact spec_BrdText.mono _ _ _)
      | (with_reducible exact spec_l20Brd.mono _ _ _ _)
      | (with_reducible exact spec_l20Rd_pick.mono _ _ _ _)
      | (with_reducible exact LeO.refl _)
      | (with_reducible exact LeO.none _)
      | (with_reducible refine LeO.ite ?_ ?_)
      | (with_reducible refine LeO.bind ?_ (fun _ => ?_))
      | exact spec_BrdText.mono _ _ _
      | exact spec_l20Brd.mono _ _ _ _
      | exact spec_l20Rd_pick.mono _ _ _ _
      | exact LeO.none _
      | refine LeO.ite ?_ ?_
      | refine LeO.bind ?_ (fun _ => ?_)
set_option maxHeartbeats 8000000 in
set_option maxRecDepth 100000 in
theorem spec_DrawBrdRead.calls (k : Nat) (A0 : Option Addr) (c0 : Nat) (l0 : List Int) (r : ByteArray) (w : World) (hr0 : Kd.C (Kd.int .u8) w A0 l0.length l0) (hc0 : l0.length ≤ c0) (h : spec_DrawBrdRead.f k l0 = some r) :
    Calls Tryd.prog 9 #[.slice A0 l0.length c0] w fun e w' => e = .returned (.string r) ∧ Below w.heap.size w w' := by
  have HR0 := Aside0.mk hr0
  have HC0 := Aside0.mk hc0
  clear hr0 hc0
  have HB := Aside0.mk (Below.refl w.heap.size w)
  have H : ((spec_l20Open.f l0).bind fun bt188 => ((spec_l20Brd.f k bt188.1 bt188.2 99).bind fun bt191 => ((spec_BrdText.f k bt191.1 bt191.2.1).bind fun t194 => ((some (([t194, (⟨#[49, 50]⟩ : ByteArray), (⟨#[52]⟩ : ByteArray), (⟨#[]⟩ : ByteArray), (⟨#[52, 48]⟩ : ByteArray), (⟨#[52, 49]⟩ : ByteArray), (⟨#[48, 48]⟩ : ByteArray), (⟨#[120, 49]⟩ : ByteArray), (⟨#[49, 50, 51]⟩ : ByteArray), (⟨#[49, 120]⟩ : ByteArray)] : List ByteArray) : List ByteArray)).bind fun y195 => ((spec_l20Rd_pick.f k bt188.1 bt191.2.2 10).bind fun bt198 => (if 0 ≤ bt198.1 then (if bt198.1 < (y195.length : Int) then (some (rdOf ByteArray.empty y195 bt198.1)) else (none)) else (none))))))) = some r := h
  clear h
  replace H := Option.bind_eq_some_iff.mp H
  obtain ⟨⟨t188, t189⟩, A20, H⟩ := H
  replace H : ((spec_l20Brd.f k t188 t189 99).bind fun bt191 => ((spec_BrdText.f k bt191.1 bt191.2.1).bind fun t194 => ((some (([t194, (⟨#[49, 50]⟩ : ByteArray), (⟨#[52]⟩ : ByteArray), (⟨#[]⟩ : ByteArray), (⟨#[52, 48]⟩ : ByteArray), (⟨#[52, 49]⟩ : ByteArray), (⟨#[48, 48]⟩ : ByteArray), (⟨#[120, 49]⟩ : ByteArray), (⟨#[49, 50, 51]⟩ : ByteArray), (⟨#[49, 120]⟩ : ByteArray)] : List ByteArray) : List ByteArray)).bind fun y195 => ((spec_l20Rd_pick.f k t188 bt191.2.2 10).bind fun bt198 => (if 0 ≤ bt198.1 then (if bt198.1 < (y195.length : Int) then (some (rdOf ByteArray.empty y195 bt198.1)) else (none)) else (none)))))) = some r := H
  have A2 := Aside0.mk A20
  clear A20
  replace H := Option.bind_eq_some_iff.mp H
  obtain ⟨⟨t191, t192, t193⟩, A30, H⟩ := H
  replace H : ((spec_BrdText.f k t191 t192).bind fun t194 => ((some (([t194, (⟨#[49, 50]⟩ : ByteArray), (⟨#[52]⟩ : ByteArray), (⟨#[]⟩ : ByteArray), (⟨#[52, 48]⟩ : ByteArray), (⟨#[52, 49]⟩ : ByteArray), (⟨#[48, 48]⟩ : ByteArray), (⟨#[120, 49]⟩ : ByteArray), (⟨#[49, 50, 51]⟩ : ByteArray), (⟨#[49, 120]⟩ : ByteArray)] : List ByteArray) : List ByteArray)).bind fun y195 => ((spec_l20Rd_pick.f k t188 t193 10).bind fun bt198 => (if 0 ≤ bt198.1 then (if bt198.1 < (y195.length : Int) then (some (rdOf ByteArray.empty y195 bt198.1)) else (none)) else (none))))) = some r := H
  have A3 := Aside0.mk A30
  clear A30
  replace H := Option.bind_eq_some_iff.mp H
  obtain ⟨t194, A40, H⟩ := H
  replace H : ((some (([t194, (⟨#[49, 50]⟩ : ByteArray), (⟨#[52]⟩ : ByteArray), (⟨#[]⟩ : ByteArray), (⟨#[52, 48]⟩ : ByteArray), (⟨#[52, 49]⟩ : ByteArray), (⟨#[48, 48]⟩ : ByteArray), (⟨#[120, 49]⟩ : ByteArray), (⟨#[49, 50, 51]⟩ : ByteArray), (⟨#[49, 120]⟩ : ByteArray)] : List ByteArray) : List ByteArray)).bind fun y195 => ((spec_l20Rd_pick.f k t188 t193 10).bind fun bt198 => (if 0 ≤ bt198.1 then (if bt198.1 < (y195.length : Int) then (some (rdOf ByteArray.empty y195 bt198.1)) else (none)) else (none)))) = some r := H
  have A4 := Aside0.mk A40
  clear A40
  obtain ⟨y195, hy195⟩ : ∃ y_ : List ByteArray, y_ = (([t194, (⟨#[49, 50]⟩ : ByteArray), (⟨#[52]⟩ : ByteArray), (⟨#[]⟩ : ByteArray), (⟨#[52, 48]⟩ : ByteArray), (⟨#[52, 49]⟩ : ByteArray), (⟨#[48, 48]⟩ : ByteArray), (⟨#[120, 49]⟩ : ByteArray), (⟨#[49, 50, 51]⟩ : ByteArray), (⟨#[49, 120]⟩ : ByteArray)] : List ByteArray)) := ⟨_, rfl⟩
  replace H : ((spec_l20Rd_pick.f k t188 t193 10).bind fun bt198 => (if 0 ≤ bt198.1 then (if bt198.1 < (y195.length : Int) then (some (rdOf ByteArray.empty y195 bt198.1)) else (none)) else (none))) = some r := by first | (rw [hy195]; with_reducible exact H) | (have H2_ := (Option.bind_some _ _).symm.trans H; rw [hy195]; with_reducible exact H2_) | (have H2_ := (Option.bind_some _ _).symm.trans H; with_reducible exact H2_) | with_reducible exact H | (rw [hy195]; exact H) | exact H
  have Ny195 := Aside0.mk hy195
  clear hy195
  replace H := Option.bind_eq_some_iff.mp H
  obtain ⟨⟨t198, t199⟩, A50, H⟩ := H
  replace H : (if 0 ≤ t198 then (if t198 < (y195.length : Int) then (some (rdOf ByteArray.empty y195 t198)) else (none)) else (none)) = some r := H
  have A5 := Aside0.mk A50
  clear A50
  by_cases c6 : 0 ≤ t198
  · rw [if_pos c6] at H
    have c6b0 : decide (0 ≤ t198) = true := decide_eq_true c6
    clear c6
    by_cases c7 : t198 < (y195.length : Int)
    · rw [if_pos c7] at H
      have c7b0 : decide (t198 < (y195.length : Int)) = true := decide_eq_true c7
      clear c7
      obtain rfl := Option.some.inj H
      go_enter Tryd.func9, Tryd.ntmps9
      go_wp2_with (first | ((with_reducible refine gate_callee (f := 17) rfl ?_); refine goesL_ (some 5) rfl rfl Tryd.func17 (by kernel_rfl) rfl #[.slice A0 l0.length c0] rfl (by (try simp only [List.map_toArray, List.map_cons, List.map_nil]); first | done | rfl | (simp only [List.length_drop, List.length_take]; rfl)) ?_; (with_reducible refine (spec_l20Open.calls _ _ l0 t188 t189 w _ ?side1 ?side2 ?side3 A2.out).mono ?_); (case side1 => repeat (first | (with_reducible first | exact HB.out | apply below_alloc | apply pw_below_drewN | apply below_drew1) | exact HB.out)); (case side2 => exact HR0.out); (case side3 => exact HC0.out); rintro e w8 ⟨g190, rfl, hi, hb, hb2⟩; refine ⟨_, rfl, ?_⟩; have n0_ := Aside0.mk (hb); have n1_ := Aside0.mk (hi); clear HB; have HB := n0_; have HI190 := n1_; clear n0_ n1_; (try clear hb); (try clear hb2); (try clear hk); (try clear hi)) | ((with_reducible refine gate_callee (f := 16) rfl ?_); refine goesL_ (some 7) rfl rfl Tryd.func16 (by kernel_rfl) rfl #[.pointer (some ⟨g190, 0, none⟩), .int .i64 99] rfl (by (try simp only [List.map_toArray, List.map_cons, List.map_nil]); first | done | rfl | (simp only [List.length_drop, List.length_take]; rfl)) ?_; (with_reducible refine (spec_l20Brd.calls k g190 t188 t189 99 t191 t192 t193 w _ ?side1 ?side2 A3.out).mono ?_); (case side1 => repeat (first | (with_reducible first | exact HI190.out | apply IsS46.alloc | apply IsS46.drewN | apply IsS46.drew | apply IsS46.set_1) | exact HI190.out)); (case side2 => repeat (first | (with_reducible first | exact HB.out | apply below_alloc | apply pw_below_drewN | apply below_drew1 | refine below_set ?_ (IsS46.ge HI190.out)) | exact HB.out)); rintro e w9 ⟨rfl, hi, hb, hk⟩; refine ⟨_, rfl, ?_⟩; have n0_ := Aside0.mk (hb); have n1_ := Aside0.mk (hi); clear HB; clear HI190; have HB := n0_; have HI190 := n1_; clear n0_ n1_; (try clear hb); (try clear hb2); (try clear hk); (try clear hi)) | ((with_reducible refine gate_callee (f := 5) rfl ?_); refine goesL_ (some 8) rfl rfl Tryd.func5 (by kernel_rfl) rfl #[.agg #[.int .i64 t191, .int .i64 t192]] rfl (by (try simp only [List.map_toArray, List.map_cons, List.map_nil]); first | done | rfl | (simp only [List.length_drop, List.length_take]; rfl)) ?_; (with_reducible refine (spec_BrdText.calls k t191 t192 t194 _ A4.out).mono ?_); rintro e w10 ⟨rfl, hb⟩; refine ⟨_, rfl, ?_⟩; have n0_ := Aside0.mk (IsS46.below (by repeat (first | (with_reducible first | exact HI190.out | apply IsS46.alloc | apply IsS46.drewN | apply IsS46.drew | apply IsS46.set_1) | exact HI190.out)) hb); have n1_ := Aside0.mk (below_step (by repeat (first | (with_reducible first | exact HB.out | apply below_alloc | apply pw_below_drewN | apply below_drew1 | refine below_set ?_ (IsS46.ge HI190.out)) | exact HB.out)) hb); clear HI190; clear HB; have HI190 := n0_; have HB := n1_; clear n0_ n1_; (try clear hb); (try clear hb2); (try clear hk); (try clear hi)) | ((with_reducible refine gate_dst (N := 9) rfl ?_); refine Kd.R_lit Kd.string _ 9 ?hg (N := 9) ?hd (xs := ([t194, (⟨#[49, 50]⟩ : ByteArray), (⟨#[52]⟩ : ByteArray), (⟨#[]⟩ : ByteArray), (⟨#[52, 48]⟩ : ByteArray), (⟨#[52, 49]⟩ : ByteArray), (⟨#[48, 48]⟩ : ByteArray), (⟨#[120, 49]⟩ : ByteArray), (⟨#[49, 50, 51]⟩ : ByteArray), (⟨#[49, 120]⟩ : ByteArray)] : List ByteArray)) (inner := [.string t194, .string (⟨#[49, 50]⟩ : ByteArray), .string (⟨#[52]⟩ : ByteArray), .string (⟨#[]⟩ : ByteArray), .string (⟨#[52, 48]⟩ : ByteArray), .string (⟨#[52, 49]⟩ : ByteArray), .string (⟨#[48, 48]⟩ : ByteArray), .string (⟨#[120, 49]⟩ : ByteArray), .string (⟨#[49, 50, 51]⟩ : ByteArray), .string (⟨#[49, 120]⟩ : ByteArray)]) (ok := fun _ => True) (okp := fun _ => True) ?hr ?hp (fun _ hk => hk) trivial (Below.refl _ _) (Nat.le_refl _) (by simp) ?_; (case hd => rfl); (case hg => rfl); (case hr => first | (go_simp; done) | (go_simp; rfl)); (case hp => exact (Reps.one (show Kd.M Kd.string _ _ _ t194 [.string t194] from rfl) (Reps.one (show Kd.M Kd.string _ _ _ (⟨#[49, 50]⟩ : ByteArray) [.string (⟨#[49, 50]⟩ : ByteArray)] from rfl) (Reps.one (show Kd.M Kd.string _ _ _ (⟨#[52]⟩ : ByteArray) [.string (⟨#[52]⟩ : ByteArray)] from rfl) (Reps.one (show Kd.M Kd.string _ _ _ (⟨#[]⟩ : ByteArray) [.string (⟨#[]⟩ : ByteArray)] from rfl) (Reps.one (show Kd.M Kd.string _ _ _ (⟨#[52, 48]⟩ : ByteArray) [.string (⟨#[52, 48]⟩ : ByteArray)] from rfl) (Reps.one (show Kd.M Kd.string _ _ _ (⟨#[52, 49]⟩ : ByteArray) [.string (⟨#[52, 49]⟩ : ByteArray)] from rfl) (Reps.one (show Kd.M Kd.string _ _ _ (⟨#[48, 48]⟩ : ByteArray) [.string (⟨#[48, 48]⟩ : ByteArray)] from rfl) (Reps.one (show Kd.M Kd.string _ _ _ (⟨#[120, 49]⟩ : ByteArray) [.string (⟨#[120, 49]⟩ : ByteArray)] from rfl) (Reps.one (show Kd.M Kd.string _ _ _ (⟨#[49, 50, 51]⟩ : ByteArray) [.string (⟨#[49, 50, 51]⟩ : ByteArray)] from rfl) (Reps.one (show Kd.M Kd.string _ _ _ (⟨#[49, 120]⟩ : ByteArray) [.string (⟨#[49, 120]⟩ : ByteArray)] from rfl) (Reps.none _ _)))))))))))); intro v196 w11 ho12 hb hg_ hnew_; clear hg_ hnew_; (first | rw [← Ny195.out] at ho12 | (simp only [Int.reduceToNat] at ho12; rw [← Ny195.out] at ho12)); have n0_ := Aside0.mk (Kd.R_lower ho12 (below_size (by repeat (first | (with_reducible first | exact HB.out | apply below_alloc | apply pw_below_drewN | apply below_drew1 | refine below_set ?_ (IsS46.ge HI190.out)) | exact HB.out)))); have n1_ := Aside0.mk (IsS46.below (by repeat (first | (with_reducible first | exact HI190.out | apply IsS46.alloc | apply IsS46.drewN | apply IsS46.drew | apply IsS46.set_1) | exact HI190.out)) hb); have n2_ := Aside0.mk (below_step (by repeat (first | (with_reducible first | exact HB.out | apply below_alloc | apply pw_below_drewN | apply below_drew1 | refine below_set ?_ (IsS46.ge HI190.out)) | exact HB.out)) hb); clear HI190; clear HB; have HO197 := n0_; have HI190 := n1_; have HB := n2_; clear n0_ n1_ n2_; clear hb ho12) | ((with_reducible refine gate_callee (f := 18) rfl ?_); refine goesL_ (some 11) rfl rfl Tryd.func18 (by kernel_rfl) rfl #[.pointer (some ⟨g190, 0, none⟩), .int .i64 10] rfl (by (try simp only [List.map_toArray, List.map_cons, List.map_nil]); first | done | rfl | (simp only [List.length_drop, List.length_take]; rfl)) ?_; (with_reducible refine (spec_l20Rd_pick.calls k g190 t188 t193 10 t198 t199 w _ ?side1 ?side2 A5.out).mono ?_); (case side1 => repeat (first | (with_reducible first | exact HI190.out | apply IsS46.alloc | apply IsS46.drewN | apply IsS46.drew | apply IsS46.set_1) | exact HI190.out)); (case side2 => repeat (first | (with_reducible first | exact HB.out | apply below_alloc | apply pw_below_drewN | apply below_drew1 | refine below_set ?_ (IsS46.ge HI190.out)) | exact HB.out)); rintro e w13 ⟨rfl, hi, hb, hk⟩; refine ⟨_, rfl, ?_⟩; have n0_ := Aside0.mk (Kd.R_mono (Kd.R_keep (IsS46.apart (show IsS46 w _ g190 t188 t193 from by repeat (first | (with_reducible first | exact HI190.out | apply IsS46.alloc | apply IsS46.drewN | apply IsS46.drew | apply IsS46.set_1) | exact HI190.out)) (by (with_reducible repeat (first | apply Kd.R_alloc | apply Kd.R_drewN | apply Kd.R_drew)); exact HO197.out) (by decide)) hk (fun _ h => h.2)) (fun _ h => h.1)); have n1_ := Aside0.mk (hb); have n2_ := Aside0.mk (hi); clear HO197; clear HB; clear HI190; have HO197 := n0_; have HB := n1_; have HI190 := n2_; clear n0_ n1_ n2_; (try clear hb); (try clear hb2); (try clear hk); (try clear hi); obtain ⟨Ao14, co14, eo14⟩ := Kd.R_slice HO197.out; subst eo14; have p200 : 0 ≤ (t198 : Int) := of_decide_eq_true (by first | (with_reducible assumption) | assumption); have q200 : t198 < (y195.length : Int) := of_decide_eq_true (by first | (with_reducible assumption) | assumption); obtain ⟨ad200, e200, hx200_0⟩ := Kd.at_string (Kd.R_reads' HO197.out).2.2 t198 p200 q200; cases e200; replace p200 := eq_true p200; replace q200 := eq_true q200))
      go_ret
      exact ⟨by first | rfl | (simp [errW_none, errW_some] <;> rfl) | (simp [*, errW_none, errW_some] <;> rfl), by repeat (first | (with_reducible first | exact HB.out | apply below_alloc | apply pw_below_drewN | apply below_drew1 | refine below_set ?_ (IsS46.ge HI190.out)) | exact HB.out)⟩
    · rw [if_neg c7] at H
      exact absurd H (by simp)
  · rw [if_neg c6] at H
    exact absurd H (by simp)
end Go.Proofs.YtfofmdillhamkaaDoor.Pr
