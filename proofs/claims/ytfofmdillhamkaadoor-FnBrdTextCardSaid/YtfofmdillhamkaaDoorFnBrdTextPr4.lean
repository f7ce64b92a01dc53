/- A part of what the claim of 'FnBrdText' leans on. -/
import Derived.Test.YtfofmdillhamkaaDoorFnBrdTextPr0
import Derived.Test.YtfofmdillhamkaaDoorFnBrdTextPr925
import Derived.Test.YtfofmdillhamkaaDoorFnBrdTextPr5
import Derived.Test.YtfofmdillhamkaaDoorFnBrdTextPr12
import Derived.Test.YtfofmdillhamkaaDoorFnBrdTextPr7
import Derived.Test.YtfofmdillhamkaaDoorFnBrdTextPr8
import Derived.Test.YtfofmdillhamkaaDoorFnBrdTextPr9
import Derived.Test.YtfofmdillhamkaaDoorFnBrdTextPr10
import Derived.Test.YtfofmdillhamkaaDoorFnBrdTextPr11
namespace Go.Proofs.YtfofmdillhamkaaDoor.Pr
open Go.RowKit Go.Proofs.YtfofmdillhamkaaDoorW.PrintWords Go.Proofs.YtfofmdillhamkaaDoorW.PrintLast Go.Proofs.YtfofmdillhamkaaDoorW.PrintMore
attribute [local go_sem] max2_int min2_int max_two min_two max_three min_three max_four min_four
set_option linter.unusedVariables false
set_option linter.unusedSimpArgs false
attribute [local go_sem high] eqA25
mutual
def laws_FnBrdText.j0 : Nat → List Int → List Int → Bool → Option (Bool)
  | 0, _, _, _ => none
  | k + 1, x0, x1, x21 => if x21 = true then (some true) else ((spec_DrawBrdText.f k x0).bind fun bt210 => ((impl_BrdText.f bt210.1 bt210.2).bind fun t213 => ((spec_DrawBrdRead.f k x1).bind fun t214 => ((impl_BrdRead.f t214).bind fun bt215 => ((spec_BrdRead.f k t214).bind fun bt219 => ((spec_BrdText.f k bt210.1 bt210.2).bind fun t223 => (if t213.toList = t223.toList then (if (!(bt215.1 == bt219.1) || (!(bt215.2.1 == bt219.2.1))) = true then (laws_FnBrdText.j1 k t213 true bt210.1 bt210.2) else (if (bt215.2.2 != bt219.2.2) = true then (laws_FnBrdText.j1 k t213 true bt210.1 bt210.2) else (if bt215.2.2 = true then ((impl_BrdText.f bt215.1 bt215.2.1).bind fun t224 => (if t224.toList = t214.toList then ((impl_BrdOk.f bt210.1 bt210.2).bind fun t225 => (laws_FnBrdText.j1 k t213 ((t213.toList != ([] : List UInt8)) != t225) bt210.1 bt210.2)) else (laws_FnBrdText.j1 k t213 true bt210.1 bt210.2))) else ((impl_BrdOk.f bt210.1 bt210.2).bind fun t226 => (laws_FnBrdText.j1 k t213 ((t213.toList != ([] : List UInt8)) != t226) bt210.1 bt210.2))))) else (laws_FnBrdText.j1 k t213 true bt210.1 bt210.2))))))))
def laws_FnBrdText.j1 : Nat → ByteArray → Bool → Int → Int → Option (Bool)
  | 0, _, _, _, _ => none
  | k + 1, x6, x67, x213000, x213001 => if x67 = true then (some false) else (if x6.toList = ([] : List UInt8) then ((impl_BrdText.f 3 2).bind fun t227 => (some (t227.toList == ([51, 50] : List UInt8)))) else ((impl_BrdRead.f x6).bind fun bt228 => (if bt228.2.2 = true then (some (bt228.1 == x213000 && (bt228.2.1 == x213001))) else (some false))))
end
def laws_FnBrdText.f (k : Nat) (l0 : List Int) (l1 : List Int) : Option (Bool) := if (l0.length : Int) > 1048576 then (laws_FnBrdText.j0 k l0 l1 true) else (laws_FnBrdText.j0 k l0 l1 (decide ((l1.length : Int) > 1048576)))
theorem laws_FnBrdText.mono_l : ∀ k, (∀ y0 y1 y2, LeO (laws_FnBrdText.j0 k y0 y1 y2) (laws_FnBrdText.j0 (k + 1) y0 y1 y2)) ∧ (∀ y0 y1 y2 y3, LeO (laws_FnBrdText.j1 k y0 y1 y2 y3) (laws_FnBrdText.j1 (k + 1) y0 y1 y2 y3))
  | 0 => ⟨fun _ _ _ r h => by simp [laws_FnBrdText.j0] at h, fun _ _ _ _ r h => by simp [laws_FnBrdText.j1] at h⟩
  | k + 1 => by
    obtain ⟨ih0, ih1⟩ := laws_FnBrdText.mono_l k
    refine ⟨?_, ?_⟩
    · intro y0 y1 y2
      unfold laws_FnBrdText.j0
      repeat' first
      | (with_reducible exact ih0 _ _ _)
      | (with_reducible exact ih1 _ _ _ _)
      | (with_reducible exact spec_BrdRead.mono _ _)
      | (with_reducible exact spec_BrdText.mono _ _ _)
      | (with_reducible exact spec_DrawBrdRead.mono _ _)
      | (with_reducible exact spec_DrawBrdText.mono _ _)
      | (with_reducible exact LeO.refl _)
      | (with_reducible exact LeO.none _)
      | (with_reducible refine LeO.ite ?_ ?_)
      | (with_reducible refine LeO.bind ?_ (fun _ => ?_))
      | exact ih0 _ _ _
      | exact ih1 _ _ _ _
      | exact spec_BrdRead.mono _ _
      | exact spec_BrdText.mono _ _ _
      | exact spec_DrawBrdRead.mono _ _
      | exact spec_DrawBrdText.mono _ _
      | exact LeO.none _
      | refine LeO.ite ?_ ?_
      | refine LeO.bind ?_ (fun _ => ?_)
    · intro y0 y1 y2 y3
      unfold laws_FnBrdText.j1
      repeat' first
      | (with_reducible exact ih0 _ _ _)
      | (with_reducible exact ih1 _ _ _ _)
      | (with_reducible exact spec_BrdRead.mono _ _)
      | (with_reducible exact spec_BrdText.mono _ _ _)
      | (with_reducible exact spec_DrawBrdRead.mono _ _)
      | (with_reducible exact spec_DrawBrdText.mono _ _)
      | (with_reducible exact LeO.refl _)
      | (with_reducible exact LeO.none _)
      | (with_reducible refine LeO.ite ?_ ?_)
      | (with_reducible refine LeO.bind ?_ (fun _ => ?_))
      | exact ih0 _ _ _
      | exact ih1 _ _ _ _
      | exact spec_BrdRead.mono _ _
      | exact spec_BrdText.mono _ _ _
      | exact spec_DrawBrdRead.mono _ _
      | exact spec_DrawBrdText.mono _ _
      | exact LeO.none _
      | refine LeO.ite ?_ ?_
      | refine LeO.bind ?_ (fun _ => ?_)
theorem laws_FnBrdText.mono : ∀ a0 a1 k, LeO (laws_FnBrdText.f k a0 a1) (laws_FnBrdText.f (k + 1) a0 a1) := by
  intro a0 a1 k
  obtain ⟨ih0, ih1⟩ := laws_FnBrdText.mono_l k
  unfold laws_FnBrdText.f
  repeat' first
      | (with_reducible exact ih0 _ _ _)
      | (with_reducible exact ih1 _ _ _ _)
      | (with_reducible exact spec_BrdRead.mono _ _)
      | (with_reducible exact spec_BrdText.mono _ _ _)
      | (with_reducible exact spec_DrawBrdRead.mono _ _)
      | (with_reducible exact spec_DrawBrdText.mono _ _)
      | (with_reducible exact LeO.refl _)
      | (with_reducible exact LeO.none _)
      | (with_reducible refine LeO.ite ?_ ?_)
      | (with_reducible refine LeO.bind ?_ (fun _ => ?_))
      | exact ih0 _ _ _
      | exact ih1 _ _ _ _
      | exact spec_BrdRead.mono _ _
      | exact spec_BrdText.mono _ _ _
      | exact spec_DrawBrdRead.mono _ _
      | exact spec_DrawBrdText.mono _ _
      | exact LeO.none _
      | refine LeO.ite ?_ ?_
      | refine LeO.bind ?_ (fun _ => ?_)
set_option maxHeartbeats 8000000 in
set_option maxRecDepth 100000 in
theorem laws_FnBrdText.calls (k : Nat) (A0 : Option Addr) (c0 : Nat) (l0 : List Int) (A1 : Option Addr) (c1 : Nat) (l1 : List Int) (r : Bool) (w : World) (hr0 : Kd.C (Kd.int .u8) w A0 l0.length l0) (hc0 : l0.length ≤ c0) (hr1 : Kd.C (Kd.int .u8) w A1 l1.length l1) (hc1 : l1.length ≤ c1) (h : laws_FnBrdText.f k l0 l1 = some r) :
    Calls Tryd.prog 4 #[.slice A0 l0.length c0, .slice A1 l1.length c1] w fun e w' => e = .returned (.bool r) ∧ Below w.heap.size w w' := by
  have hu25 := Tryd.underlying25
  have HR0 := Aside0.mk hr0
  have HC0 := Aside0.mk hc0
  clear hr0 hc0
  have HR1 := Aside0.mk hr1
  have HC1 := Aside0.mk hc1
  clear hr1 hc1
  have HB := Aside0.mk (Below.refl w.heap.size w)
  have H : (if (l0.length : Int) > 1048576 then (laws_FnBrdText.j0 k l0 l1 true) else (laws_FnBrdText.j0 k l0 l1 (decide ((l1.length : Int) > 1048576)))) = some r := h
  clear h
  have HC3 := Aside0.mk H
  clear H
  go_enter Tryd.func4, Tryd.ntmps4
  go_upto_region 1 with (fail)
  go_cut [21] (fun v21 wc => ∃ (kq : Nat) (x21_2 : Bool), v21 = .bool x21_2 ∧ Aside0 (laws_FnBrdText.j0 kq l0 l1 x21_2 = some r) ∧ Aside0 (kq ≤ k) ∧ Aside0 (Below w.heap.size w wc))
  case first =>
    have H := HC3.out
    clear HC3
    by_cases c4 : (l0.length : Int) > 1048576
    · rw [if_pos c4] at H
      have c4b0 : decide (1048576 < (l0.length : Int)) = true := decide_eq_true c4
      have c4b1 : decide (1048576 < l0.length) = true := decide_eq_true (by omega)
      clear c4
      (first | rw [c4b0] | (simp only [i64_w, i32_w]; rw [c4b0]) | skip)
      have H' := Aside0.mk H
      clear H
      go_wp2
      go_meet
      case rel => exact ⟨_, (true), (by first | rfl | (simp; done) | (simp [*]; done)), H', ⟨by first | omega | exact Nat.le_refl _⟩, ⟨by repeat (first | (with_reducible first | exact HB.out | apply below_alloc | apply pw_below_drewN | apply below_drew1) | exact HB.out)⟩⟩
    · rw [if_neg c4] at H
      have c4b0 : decide (1048576 < (l0.length : Int)) = false := decide_eq_false c4
      have c4b1 : decide (1048576 < l0.length) = false := decide_eq_false (by omega)
      clear c4
      (first | rw [c4b0] | (simp only [i64_w, i32_w]; rw [c4b0]) | skip)
      have H' := Aside0.mk H
      clear H
      go_wp2
      go_meet
      case rel => exact ⟨_, (decide ((l1.length : Int) > 1048576)), (by first | rfl | (simp; done) | (simp [*]; done)), H', ⟨by first | omega | exact Nat.le_refl _⟩, ⟨by repeat (first | (with_reducible first | exact HB.out | apply below_alloc | apply pw_below_drewN | apply below_drew1) | exact HB.out)⟩⟩
  case rest =>
    clear HC3
    try clear c1
    try clear p2
    try clear c4
    try clear c4b0
    try clear c4b1
    obtain ⟨kq, x21_2, rfl, HA, HJ2, HB⟩ := hcut
    cases kq with
    | zero => exact absurd HA.out (by simp [laws_FnBrdText.j0])
    | succ kj2 =>
      have H := HA.out
      clear HA
      simp only [laws_FnBrdText.j0] at H
      by_cases c5 : x21_2 = true
      · subst c5
        have H1 : (some true) = some r := by rw [if_pos rfl] at H; exact H
        clear H
        have H := H1
        clear H1
        obtain rfl := Option.some.inj H
        go_wp2
        go_ret
        exact ⟨by first | rfl | (simp [errW_none, errW_some] <;> rfl) | (simp [*, errW_none, errW_some] <;> rfl), by repeat (first | (with_reducible first | exact HB.out | apply below_alloc | apply pw_below_drewN | apply below_drew1) | exact HB.out)⟩
      · replace c5 := Bool.eq_false_iff.mpr c5
        subst c5
        have H1 : ((spec_DrawBrdText.f kj2 l0).bind fun bt210 => ((impl_BrdText.f bt210.1 bt210.2).bind fun t213 => ((spec_DrawBrdRead.f kj2 l1).bind fun t214 => ((impl_BrdRead.f t214).bind fun bt215 => ((spec_BrdRead.f kj2 t214).bind fun bt219 => ((spec_BrdText.f kj2 bt210.1 bt210.2).bind fun t223 => (if t213.toList = t223.toList then (if (!(bt215.1 == bt219.1) || (!(bt215.2.1 == bt219.2.1))) = true then (laws_FnBrdText.j1 kj2 t213 true bt210.1 bt210.2) else (if (bt215.2.2 != bt219.2.2) = true then (laws_FnBrdText.j1 kj2 t213 true bt210.1 bt210.2) else (if bt215.2.2 = true then ((impl_BrdText.f bt215.1 bt215.2.1).bind fun t224 => (if t224.toList = t214.toList then ((impl_BrdOk.f bt210.1 bt210.2).bind fun t225 => (laws_FnBrdText.j1 kj2 t213 ((t213.toList != ([] : List UInt8)) != t225) bt210.1 bt210.2)) else (laws_FnBrdText.j1 kj2 t213 true bt210.1 bt210.2))) else ((impl_BrdOk.f bt210.1 bt210.2).bind fun t226 => (laws_FnBrdText.j1 kj2 t213 ((t213.toList != ([] : List UInt8)) != t226) bt210.1 bt210.2))))) else (laws_FnBrdText.j1 kj2 t213 true bt210.1 bt210.2)))))))) = some r := by rw [if_neg (show ¬ (false = true) by decide)] at H; exact H
        clear H
        have H := H1
        clear H1
        replace H := Option.bind_eq_some_iff.mp H
        obtain ⟨⟨t210, t211⟩, A60, H⟩ := H
        replace H : ((impl_BrdText.f t210 t211).bind fun t213 => ((spec_DrawBrdRead.f kj2 l1).bind fun t214 => ((impl_BrdRead.f t214).bind fun bt215 => ((spec_BrdRead.f kj2 t214).bind fun bt219 => ((spec_BrdText.f kj2 t210 t211).bind fun t223 => (if t213.toList = t223.toList then (if (!(bt215.1 == bt219.1) || (!(bt215.2.1 == bt219.2.1))) = true then (laws_FnBrdText.j1 kj2 t213 true t210 t211) else (if (bt215.2.2 != bt219.2.2) = true then (laws_FnBrdText.j1 kj2 t213 true t210 t211) else (if bt215.2.2 = true then ((impl_BrdText.f bt215.1 bt215.2.1).bind fun t224 => (if t224.toList = t214.toList then ((impl_BrdOk.f t210 t211).bind fun t225 => (laws_FnBrdText.j1 kj2 t213 ((t213.toList != ([] : List UInt8)) != t225) t210 t211)) else (laws_FnBrdText.j1 kj2 t213 true t210 t211))) else ((impl_BrdOk.f t210 t211).bind fun t226 => (laws_FnBrdText.j1 kj2 t213 ((t213.toList != ([] : List UInt8)) != t226) t210 t211))))) else (laws_FnBrdText.j1 kj2 t213 true t210 t211))))))) = some r := H
        have A6 := Aside0.mk A60
        clear A60
        replace H := Option.bind_eq_some_iff.mp H
        obtain ⟨t213, A70, H⟩ := H
        replace H : ((spec_DrawBrdRead.f kj2 l1).bind fun t214 => ((impl_BrdRead.f t214).bind fun bt215 => ((spec_BrdRead.f kj2 t214).bind fun bt219 => ((spec_BrdText.f kj2 t210 t211).bind fun t223 => (if t213.toList = t223.toList then (if (!(bt215.1 == bt219.1) || (!(bt215.2.1 == bt219.2.1))) = true then (laws_FnBrdText.j1 kj2 t213 true t210 t211) else (if (bt215.2.2 != bt219.2.2) = true then (laws_FnBrdText.j1 kj2 t213 true t210 t211) else (if bt215.2.2 = true then ((impl_BrdText.f bt215.1 bt215.2.1).bind fun t224 => (if t224.toList = t214.toList then ((impl_BrdOk.f t210 t211).bind fun t225 => (laws_FnBrdText.j1 kj2 t213 ((t213.toList != ([] : List UInt8)) != t225) t210 t211)) else (laws_FnBrdText.j1 kj2 t213 true t210 t211))) else ((impl_BrdOk.f t210 t211).bind fun t226 => (laws_FnBrdText.j1 kj2 t213 ((t213.toList != ([] : List UInt8)) != t226) t210 t211))))) else (laws_FnBrdText.j1 kj2 t213 true t210 t211)))))) = some r := H
        have A7 := Aside0.mk A70
        clear A70
        replace H := Option.bind_eq_some_iff.mp H
        obtain ⟨t214, A80, H⟩ := H
        replace H : ((impl_BrdRead.f t214).bind fun bt215 => ((spec_BrdRead.f kj2 t214).bind fun bt219 => ((spec_BrdText.f kj2 t210 t211).bind fun t223 => (if t213.toList = t223.toList then (if (!(bt215.1 == bt219.1) || (!(bt215.2.1 == bt219.2.1))) = true then (laws_FnBrdText.j1 kj2 t213 true t210 t211) else (if (bt215.2.2 != bt219.2.2) = true then (laws_FnBrdText.j1 kj2 t213 true t210 t211) else (if bt215.2.2 = true then ((impl_BrdText.f bt215.1 bt215.2.1).bind fun t224 => (if t224.toList = t214.toList then ((impl_BrdOk.f t210 t211).bind fun t225 => (laws_FnBrdText.j1 kj2 t213 ((t213.toList != ([] : List UInt8)) != t225) t210 t211)) else (laws_FnBrdText.j1 kj2 t213 true t210 t211))) else ((impl_BrdOk.f t210 t211).bind fun t226 => (laws_FnBrdText.j1 kj2 t213 ((t213.toList != ([] : List UInt8)) != t226) t210 t211))))) else (laws_FnBrdText.j1 kj2 t213 true t210 t211))))) = some r := H
        have A8 := Aside0.mk A80
        clear A80
        replace H := Option.bind_eq_some_iff.mp H
        obtain ⟨⟨t215, t216, t217⟩, A90, H⟩ := H
        replace H : ((spec_BrdRead.f kj2 t214).bind fun bt219 => ((spec_BrdText.f kj2 t210 t211).bind fun t223 => (if t213.toList = t223.toList then (if (!(t215 == bt219.1) || (!(t216 == bt219.2.1))) = true then (laws_FnBrdText.j1 kj2 t213 true t210 t211) else (if (t217 != bt219.2.2) = true then (laws_FnBrdText.j1 kj2 t213 true t210 t211) else (if t217 = true then ((impl_BrdText.f t215 t216).bind fun t224 => (if t224.toList = t214.toList then ((impl_BrdOk.f t210 t211).bind fun t225 => (laws_FnBrdText.j1 kj2 t213 ((t213.toList != ([] : List UInt8)) != t225) t210 t211)) else (laws_FnBrdText.j1 kj2 t213 true t210 t211))) else ((impl_BrdOk.f t210 t211).bind fun t226 => (laws_FnBrdText.j1 kj2 t213 ((t213.toList != ([] : List UInt8)) != t226) t210 t211))))) else (laws_FnBrdText.j1 kj2 t213 true t210 t211)))) = some r := H
        have A9 := Aside0.mk A90
        clear A90
        replace H := Option.bind_eq_some_iff.mp H
        obtain ⟨⟨t219, t220, t221⟩, A100, H⟩ := H
        replace H : ((spec_BrdText.f kj2 t210 t211).bind fun t223 => (if t213.toList = t223.toList then (if (!(t215 == t219) || (!(t216 == t220))) = true then (laws_FnBrdText.j1 kj2 t213 true t210 t211) else (if (t217 != t221) = true then (laws_FnBrdText.j1 kj2 t213 true t210 t211) else (if t217 = true then ((impl_BrdText.f t215 t216).bind fun t224 => (if t224.toList = t214.toList then ((impl_BrdOk.f t210 t211).bind fun t225 => (laws_FnBrdText.j1 kj2 t213 ((t213.toList != ([] : List UInt8)) != t225) t210 t211)) else (laws_FnBrdText.j1 kj2 t213 true t210 t211))) else ((impl_BrdOk.f t210 t211).bind fun t226 => (laws_FnBrdText.j1 kj2 t213 ((t213.toList != ([] : List UInt8)) != t226) t210 t211))))) else (laws_FnBrdText.j1 kj2 t213 true t210 t211))) = some r := H
        have A10 := Aside0.mk A100
        clear A100
        have HC11 := Aside0.mk H
        clear H
        go_upto_region 8 with (first | ((with_reducible refine gate_callee (f := 8) rfl ?_); refine goesL_ (some 23) rfl rfl Tryd.func8 (by kernel_rfl) rfl #[.slice A0 l0.length c0] rfl (by (try simp only [List.map_toArray, List.map_cons, List.map_nil]); first | done | rfl | (simp only [List.length_drop, List.length_take]; rfl)) ?_; (with_reducible refine (spec_DrawBrdText.calls kj2 _ _ l0 t210 t211 _ ?side1 ?side2 A6.out).mono ?_); (case side1 => repeat (first | exact (Kd.C_below HR0.out HB.out) | (with_reducible refine Kd.C_alloc ?_ _) | (with_reducible refine Kd.C_drewN ?_ _) | (with_reducible refine Kd.C_drew ?_))); (case side2 => exact HC0.out); rintro e w12 ⟨rfl, hb⟩; refine ⟨_, rfl, ?_⟩; have n0_ := Aside0.mk (below_step (by repeat (first | (with_reducible first | exact HB.out | apply below_alloc | apply pw_below_drewN | apply below_drew1) | exact HB.out)) hb); clear HB; have HB := n0_; clear n0_; (try clear hb); (try clear hb2); (try clear hk); (try clear hi)) | ((with_reducible refine gate_dst (N := 5) rfl ?_); (try (refine gate_guard (by rfl) ?_; dsimp only)); refine box_event ?hg (N := 5) ?hd (cs := #[.int .i64 0, .int .i64 0]) (t := 25) ?hr ?_; (case hd => rfl); (case hg => rfl); (case hr => first | (go_simp; done) | (go_simp; rfl)); intro gb212 hg w13 hbox hb; have n0_ := Aside0.mk (below_step (by repeat (first | (with_reducible first | exact HB.out | apply below_alloc | apply pw_below_drewN | apply below_drew1) | exact HB.out)) hb); have n1_ := Aside0.mk (hbox); have n2_ := Aside0.mk ((by rw [hg]; exact (below_size (by repeat (first | (with_reducible first | exact HB.out | apply below_alloc | apply pw_below_drewN | apply below_drew1) | exact HB.out))) : w.heap.size ≤ gb212)); have n3_ := Aside0.mk ((by rw [hg]; exact (below_size (by repeat (first | (with_reducible first | exact HB.out | apply below_alloc | apply pw_below_drewN | apply below_drew1) | exact HB.out))) : w.heap.size ≤ gb212)); clear HB; have HB := n0_; have BK212 := n1_; have GW212 := n2_; have GE212 := n3_; clear n0_ n1_ n2_ n3_; clear hb hbox hg; have hcz14_0 : w13.cell? ⟨gb212, 0, none⟩ = some (.int .i64 0) := (blk_cell BK212.out 0).trans rfl; have hcz14_1 : w13.cell? ⟨gb212, 1, none⟩ = some (.int .i64 0) := (blk_cell BK212.out 1).trans rfl; have hfz14_0 := blk_frozen BK212.out 0; have hfz14_1 := blk_frozen BK212.out 1) | ((with_reducible refine gate_callee (f := 7) rfl ?_); refine goesL_ (some 25) rfl rfl Tryd.func7 (by kernel_rfl) rfl #[.agg #[.int .i64 t210, .int .i64 t211]] rfl (by (try simp only [List.map_toArray, List.map_cons, List.map_nil]); first | done | rfl | (simp only [List.length_drop, List.length_take]; rfl)) ?_; (with_reducible refine (impl_BrdText.calls t210 t211 t213 _ A7.out).mono ?_); rintro e w15 ⟨rfl, hb⟩; refine ⟨_, rfl, ?_⟩; have n0_ := Aside0.mk (blk_below (g := gb212) (o := .cells #[.int .i64 t210, .int .i64 t211] 25 (0, 0)) (by (with_reducible repeat (first | refine blk_drewN ?_ _ | refine blk_drew ?_ | refine blk_alloc ?_ _)); refine blk_put (cs := #[.int .i64 t210, .int .i64 0]) ?_ 1 _ rfl; (with_reducible repeat (first | refine blk_drewN ?_ _ | refine blk_drew ?_ | refine blk_alloc ?_ _)); refine blk_put (cs := #[.int .i64 0, .int .i64 0]) ?_ 0 _ rfl; (with_reducible repeat (first | refine blk_drewN ?_ _ | refine blk_drew ?_ | refine blk_alloc ?_ _)); exact BK212.out) hb); have n1_ := Aside0.mk (below_step (by repeat (first | (with_reducible first | exact HB.out | apply below_alloc | apply pw_below_drewN | apply below_drew1 | refine below_set ?_ GE212.out) | exact HB.out)) hb); clear BK212; clear HB; have BK212 := n0_; have HB := n1_; clear n0_ n1_; (try clear hb); (try clear hb2); (try clear hk); (try clear hi)) | ((with_reducible refine gate_callee (f := 9) rfl ?_); refine goesL_ (some 27) rfl rfl Tryd.func9 (by kernel_rfl) rfl #[.slice A1 l1.length c1] rfl (by (try simp only [List.map_toArray, List.map_cons, List.map_nil]); first | done | rfl | (simp only [List.length_drop, List.length_take]; rfl)) ?_; (with_reducible refine (spec_DrawBrdRead.calls kj2 _ _ l1 t214 _ ?side1 ?side2 A8.out).mono ?_); (case side1 => repeat (first | exact (Kd.C_below HR1.out HB.out) | (with_reducible refine Kd.C_alloc ?_ _) | (with_reducible refine Kd.C_drewN ?_ _) | (with_reducible refine Kd.C_drew ?_))); (case side2 => exact HC1.out); rintro e w16 ⟨rfl, hb⟩; refine ⟨_, rfl, ?_⟩; have n0_ := Aside0.mk (blk_below (g := gb212) (o := .cells #[.int .i64 t210, .int .i64 t211] 25 (0, 0)) (by (with_reducible repeat (first | refine blk_drewN ?_ _ | refine blk_drew ?_ | refine blk_alloc ?_ _)); exact BK212.out) hb); have n1_ := Aside0.mk (below_step (by repeat (first | (with_reducible first | exact HB.out | apply below_alloc | apply pw_below_drewN | apply below_drew1 | refine below_set ?_ GE212.out) | exact HB.out)) hb); clear BK212; clear HB; have BK212 := n0_; have HB := n1_; clear n0_ n1_; (try clear hb); (try clear hb2); (try clear hk); (try clear hi)) | ((with_reducible refine gate_callee (f := 10) rfl ?_); refine goesL_ (some 30) rfl rfl Tryd.func10 (by kernel_rfl) rfl #[.string t214] rfl (by (try simp only [List.map_toArray, List.map_cons, List.map_nil]); first | done | rfl | (simp only [List.length_drop, List.length_take]; rfl)) ?_; (with_reducible refine (impl_BrdRead.calls t214 t215 t216 t217 _ A9.out).mono ?_); rintro e w17 ⟨rfl, hb⟩; refine ⟨_, rfl, ?_⟩; have n0_ := Aside0.mk (blk_below (g := gb212) (o := .cells #[.int .i64 t210, .int .i64 t211] 25 (0, 0)) (by (with_reducible repeat (first | refine blk_drewN ?_ _ | refine blk_drew ?_ | refine blk_alloc ?_ _)); exact BK212.out) hb); have n1_ := Aside0.mk (below_step (by repeat (first | (with_reducible first | exact HB.out | apply below_alloc | apply pw_below_drewN | apply below_drew1 | refine below_set ?_ GE212.out) | exact HB.out)) hb); clear BK212; clear HB; have BK212 := n0_; have HB := n1_; clear n0_ n1_; (try clear hb); (try clear hb2); (try clear hk); (try clear hi)) | ((with_reducible refine gate_dst (N := 8) rfl ?_); (try (refine gate_guard (by rfl) ?_; dsimp only)); refine box_event ?hg (N := 8) ?hd (cs := #[.int .i64 0, .int .i64 0]) (t := 25) ?hr ?_; (case hd => rfl); (case hg => rfl); (case hr => first | (go_simp; done) | (go_simp; rfl)); intro gb218 hg w18 hbox hb; have n0_ := Aside0.mk (blk_below (g := gb212) (o := .cells #[.int .i64 t210, .int .i64 t211] 25 (0, 0)) (by (with_reducible repeat (first | refine blk_drewN ?_ _ | refine blk_drew ?_ | refine blk_alloc ?_ _)); exact BK212.out) hb); have n1_ := Aside0.mk (below_step (by repeat (first | (with_reducible first | exact HB.out | apply below_alloc | apply pw_below_drewN | apply below_drew1 | refine below_set ?_ GE212.out) | exact HB.out)) hb); have n2_ := Aside0.mk (hbox); have n3_ := Aside0.mk ((by rw [hg]; exact (below_size (by repeat (first | (with_reducible first | exact HB.out | apply below_alloc | apply pw_below_drewN | apply below_drew1 | refine below_set ?_ GE212.out) | exact HB.out))) : w.heap.size ≤ gb218)); have n4_ := Aside0.mk ((by rw [hg]; exact (below_size (by repeat (first | (with_reducible first | exact HB.out | apply below_alloc | apply pw_below_drewN | apply below_drew1 | refine below_set ?_ GE212.out) | exact HB.out))) : w.heap.size ≤ gb218)); have n5_ := Aside0.mk ((by rw [hg]; exact Nat.ne_of_lt (blk_lt (g := gb212) (o := .cells #[.int .i64 t210, .int .i64 t211] 25 (0, 0)) (by (with_reducible repeat (first | refine blk_drewN ?_ _ | refine blk_drew ?_ | refine blk_alloc ?_ _)); exact BK212.out)) : gb212 ≠ gb218)); have n6_ := Aside0.mk ((by rw [hg]; exact Nat.ne_of_gt (blk_lt (g := gb212) (o := .cells #[.int .i64 t210, .int .i64 t211] 25 (0, 0)) (by (with_reducible repeat (first | refine blk_drewN ?_ _ | refine blk_drew ?_ | refine blk_alloc ?_ _)); exact BK212.out)) : gb218 ≠ gb212)); clear BK212; clear HB; have BK212 := n0_; have HB := n1_; have BK218 := n2_; have GW218 := n3_; have GE218 := n4_; have NB212_218 := n5_; have NB218_212 := n6_; clear n0_ n1_ n2_ n3_ n4_ n5_ n6_; clear hb hbox hg; have hnb19 := NB218_212.out; have hnc19 := NB212_218.out; have hcz20_0 : w18.cell? ⟨gb218, 0, none⟩ = some (.int .i64 0) := (blk_cell BK218.out 0).trans rfl; have hcz20_1 : w18.cell? ⟨gb218, 1, none⟩ = some (.int .i64 0) := (blk_cell BK218.out 1).trans rfl; have hfz20_0 := blk_frozen BK218.out 0; have hfz20_1 := blk_frozen BK218.out 1) | ((with_reducible refine gate_callee (f := 11) rfl ?_); refine goesL_ (some 35) rfl rfl Tryd.func11 (by kernel_rfl) rfl #[.string t214] rfl (by (try simp only [List.map_toArray, List.map_cons, List.map_nil]); first | done | rfl | (simp only [List.length_drop, List.length_take]; rfl)) ?_; (with_reducible refine (spec_BrdRead.calls kj2 t214 t219 t220 t221 _ A10.out).mono ?_); rintro e w21 ⟨rfl, hb⟩; refine ⟨_, rfl, ?_⟩; have n0_ := Aside0.mk (blk_below (g := gb212) (o := .cells #[.int .i64 t210, .int .i64 t211] 25 (0, 0)) (by (with_reducible repeat (first | refine blk_drewN ?_ _ | refine blk_drew ?_ | refine blk_alloc ?_ _)); refine blk_far ?_ NB212_218.out _; (with_reducible repeat (first | refine blk_drewN ?_ _ | refine blk_drew ?_ | refine blk_alloc ?_ _)); refine blk_far ?_ NB212_218.out _; (with_reducible repeat (first | refine blk_drewN ?_ _ | refine blk_drew ?_ | refine blk_alloc ?_ _)); exact BK212.out) hb); have n1_ := Aside0.mk (blk_below (g := gb218) (o := .cells #[.int .i64 t215, .int .i64 t216] 25 (0, 0)) (by (with_reducible repeat (first | refine blk_drewN ?_ _ | refine blk_drew ?_ | refine blk_alloc ?_ _)); refine blk_put (cs := #[.int .i64 t215, .int .i64 0]) ?_ 1 _ rfl; (with_reducible repeat (first | refine blk_drewN ?_ _ | refine blk_drew ?_ | refine blk_alloc ?_ _)); refine blk_put (cs := #[.int .i64 0, .int .i64 0]) ?_ 0 _ rfl; (with_reducible repeat (first | refine blk_drewN ?_ _ | refine blk_drew ?_ | refine blk_alloc ?_ _)); exact BK218.out) hb); have n2_ := Aside0.mk (below_step (by repeat (first | (with_reducible first | exact HB.out | apply below_alloc | apply pw_below_drewN | apply below_drew1 | refine below_set ?_ GE212.out | refine below_set ?_ GE218.out) | exact HB.out)) hb); clear BK212; clear BK218; clear HB; have BK212 := n0_; have BK218 := n1_; have HB := n2_; clear n0_ n1_ n2_; (try clear hb); (try clear hb2); (try clear hk); (try clear hi)) | ((with_reducible refine gate_dst (N := 10) rfl ?_); (try (refine gate_guard (by rfl) ?_; dsimp only)); refine box_event ?hg (N := 10) ?hd (cs := #[.int .i64 0, .int .i64 0]) (t := 25) ?hr ?_; (case hd => rfl); (case hg => rfl); (case hr => first | (go_simp; done) | (go_simp; rfl)); intro gb222 hg w22 hbox hb; have n0_ := Aside0.mk (blk_below (g := gb212) (o := .cells #[.int .i64 t210, .int .i64 t211] 25 (0, 0)) (by (with_reducible repeat (first | refine blk_drewN ?_ _ | refine blk_drew ?_ | refine blk_alloc ?_ _)); exact BK212.out) hb); have n1_ := Aside0.mk (blk_below (g := gb218) (o := .cells #[.int .i64 t215, .int .i64 t216] 25 (0, 0)) (by (with_reducible repeat (first | refine blk_drewN ?_ _ | refine blk_drew ?_ | refine blk_alloc ?_ _)); exact BK218.out) hb); have n2_ := Aside0.mk (below_step (by repeat (first | (with_reducible first | exact HB.out | apply below_alloc | apply pw_below_drewN | apply below_drew1 | refine below_set ?_ GE212.out | refine below_set ?_ GE218.out) | exact HB.out)) hb); have n3_ := Aside0.mk (hbox); have n4_ := Aside0.mk ((by rw [hg]; exact (below_size (by repeat (first | (with_reducible first | exact HB.out | apply below_alloc | apply pw_below_drewN | apply below_drew1 | refine below_set ?_ GE212.out | refine below_set ?_ GE218.out) | exact HB.out))) : w.heap.size ≤ gb222)); have n5_ := Aside0.mk ((by rw [hg]; exact (below_size (by repeat (first | (with_reducible first | exact HB.out | apply below_alloc | apply pw_below_drewN | apply below_drew1 | refine below_set ?_ GE212.out | refine below_set ?_ GE218.out) | exact HB.out))) : w.heap.size ≤ gb222)); have n6_ := Aside0.mk ((by rw [hg]; exact Nat.ne_of_lt (blk_lt (g := gb212) (o := .cells #[.int .i64 t210, .int .i64 t211] 25 (0, 0)) (by (with_reducible repeat (first | refine blk_drewN ?_ _ | refine blk_drew ?_ | refine blk_alloc ?_ _)); exact BK212.out)) : gb212 ≠ gb222)); have n7_ := Aside0.mk ((by rw [hg]; exact Nat.ne_of_gt (blk_lt (g := gb212) (o := .cells #[.int .i64 t210, .int .i64 t211] 25 (0, 0)) (by (with_reducible repeat (first | refine blk_drewN ?_ _ | refine blk_drew ?_ | refine blk_alloc ?_ _)); exact BK212.out)) : gb222 ≠ gb212)); have n8_ := Aside0.mk ((by rw [hg]; exact Nat.ne_of_lt (blk_lt (g := gb218) (o := .cells #[.int .i64 t215, .int .i64 t216] 25 (0, 0)) (by (with_reducible repeat (first | refine blk_drewN ?_ _ | refine blk_drew ?_ | refine blk_alloc ?_ _)); exact BK218.out)) : gb218 ≠ gb222)); have n9_ := Aside0.mk ((by rw [hg]; exact Nat.ne_of_gt (blk_lt (g := gb218) (o := .cells #[.int .i64 t215, .int .i64 t216] 25 (0, 0)) (by (with_reducible repeat (first | refine blk_drewN ?_ _ | refine blk_drew ?_ | refine blk_alloc ?_ _)); exact BK218.out)) : gb222 ≠ gb218)); clear BK212; clear BK218; clear HB; have BK212 := n0_; have BK218 := n1_; have HB := n2_; have BK222 := n3_; have GW222 := n4_; have GE222 := n5_; have NB212_222 := n6_; have NB222_212 := n7_; have NB218_222 := n8_; have NB222_218 := n9_; clear n0_ n1_ n2_ n3_ n4_ n5_ n6_ n7_ n8_ n9_; clear hb hbox hg; have hnb23 := NB222_212.out; have hnc23 := NB212_222.out; have hnb24 := NB222_218.out; have hnc24 := NB218_222.out; have hcz25_0 : w22.cell? ⟨gb222, 0, none⟩ = some (.int .i64 0) := (blk_cell BK222.out 0).trans rfl; have hcz25_1 : w22.cell? ⟨gb222, 1, none⟩ = some (.int .i64 0) := (blk_cell BK222.out 1).trans rfl; have hfz25_0 := blk_frozen BK222.out 0; have hfz25_1 := blk_frozen BK222.out 1))
        (try simp only [Act.put, List.setIfInBounds_toArray, List.set_cons_zero, List.set_cons_succ])
        go_cut [67] (fun v67 wc => ∃ (kq : Nat) (x67_10 : Bool), v67 = .bool x67_10 ∧ Aside0 (laws_FnBrdText.j1 kq t213 x67_10 t210 t211 = some r) ∧ Aside0 (kq ≤ kj2) ∧ Aside0 (wc.heap[gb212]? = some (.cells #[.int .i64 t210, .int .i64 t211] 25 (0, 0))) ∧ Aside0 (wc.heap[gb218]? = some (.cells #[.int .i64 t215, .int .i64 t216] 25 (0, 0))) ∧ Aside0 (wc.heap[gb222]? = some (.cells #[.int .i64 t219, .int .i64 t220] 25 (0, 0))) ∧ Aside0 (Below w.heap.size w wc))
        case first =>
          have H := HC11.out
          clear HC11
          replace H := Option.bind_eq_some_iff.mp H
          obtain ⟨t223, A260, H⟩ := H
          replace H : (if t213.toList = t223.toList then (if (!(t215 == t219) || (!(t216 == t220))) = true then (laws_FnBrdText.j1 kj2 t213 true t210 t211) else (if (t217 != t221) = true then (laws_FnBrdText.j1 kj2 t213 true t210 t211) else (if t217 = true then ((impl_BrdText.f t215 t216).bind fun t224 => (if t224.toList = t214.toList then ((impl_BrdOk.f t210 t211).bind fun t225 => (laws_FnBrdText.j1 kj2 t213 ((t213.toList != ([] : List UInt8)) != t225) t210 t211)) else (laws_FnBrdText.j1 kj2 t213 true t210 t211))) else ((impl_BrdOk.f t210 t211).bind fun t226 => (laws_FnBrdText.j1 kj2 t213 ((t213.toList != ([] : List UInt8)) != t226) t210 t211))))) else (laws_FnBrdText.j1 kj2 t213 true t210 t211)) = some r := H
          have A26 := Aside0.mk A260
          clear A260
          by_cases c27 : t213.toList = t223.toList
          · rw [if_pos c27] at H
            have c27b0 : (t213.toList == t223.toList) = true := beq_iff_eq.mpr c27
            have c27b1 : (t213.toList != t223.toList) = false := bne_eq_false_iff_eq.mpr c27
            clear c27
            (first | rw [c27b0] | (simp only [i64_w, i32_w]; rw [c27b0]) | skip)
            by_cases c28 : (!(t215 == t219) || (!(t216 == t220))) = true
            · rw [if_pos c28] at H
              have c28b0 : (!(t215 == t219) || (!(t216 == t220))) = true := c28
              clear c28
              have H' := Aside0.mk H
              clear H
              have hnb29 := NB212_218.out
              have hnc29 := NB218_212.out
              have hnb30 := NB212_222.out
              have hnc30 := NB222_212.out
              have hcz31_0 : w22.cell? ⟨gb212, 0, none⟩ = some (.int .i64 t210) := (blk_cell BK212.out 0).trans rfl
              have hcz31_1 : w22.cell? ⟨gb212, 1, none⟩ = some (.int .i64 t211) := (blk_cell BK212.out 1).trans rfl
              have hfz31_0 := blk_frozen BK212.out 0
              have hfz31_1 := blk_frozen BK212.out 1
              go_wp2_with (first | ((with_reducible refine gate_callee (f := 5) rfl ?_); refine goesL_ (some 40) rfl rfl Tryd.func5 (by kernel_rfl) rfl #[.agg #[.int .i64 t210, .int .i64 t211]] rfl (by (try simp only [List.map_toArray, List.map_cons, List.map_nil]); first | done | rfl | (simp only [List.length_drop, List.length_take]; rfl)) ?_; (with_reducible refine (spec_BrdText.calls kj2 t210 t211 t223 _ A26.out).mono ?_); rintro e w32 ⟨rfl, hb⟩; refine ⟨_, rfl, ?_⟩; have n0_ := Aside0.mk (blk_below (g := gb212) (o := .cells #[.int .i64 t210, .int .i64 t211] 25 (0, 0)) (by (with_reducible repeat (first | refine blk_drewN ?_ _ | refine blk_drew ?_ | refine blk_alloc ?_ _)); refine blk_far ?_ NB212_222.out _; (with_reducible repeat (first | refine blk_drewN ?_ _ | refine blk_drew ?_ | refine blk_alloc ?_ _)); refine blk_far ?_ NB212_222.out _; (with_reducible repeat (first | refine blk_drewN ?_ _ | refine blk_drew ?_ | refine blk_alloc ?_ _)); exact BK212.out) hb); have n1_ := Aside0.mk (blk_below (g := gb218) (o := .cells #[.int .i64 t215, .int .i64 t216] 25 (0, 0)) (by (with_reducible repeat (first | refine blk_drewN ?_ _ | refine blk_drew ?_ | refine blk_alloc ?_ _)); refine blk_far ?_ NB218_222.out _; (with_reducible repeat (first | refine blk_drewN ?_ _ | refine blk_drew ?_ | refine blk_alloc ?_ _)); refine blk_far ?_ NB218_222.out _; (with_reducible repeat (first | refine blk_drewN ?_ _ | refine blk_drew ?_ | refine blk_alloc ?_ _)); exact BK218.out) hb); have n2_ := Aside0.mk (blk_below (g := gb222) (o := .cells #[.int .i64 t219, .int .i64 t220] 25 (0, 0)) (by (with_reducible repeat (first | refine blk_drewN ?_ _ | refine blk_drew ?_ | refine blk_alloc ?_ _)); refine blk_put (cs := #[.int .i64 t219, .int .i64 0]) ?_ 1 _ rfl; (with_reducible repeat (first | refine blk_drewN ?_ _ | refine blk_drew ?_ | refine blk_alloc ?_ _)); refine blk_put (cs := #[.int .i64 0, .int .i64 0]) ?_ 0 _ rfl; (with_reducible repeat (first | refine blk_drewN ?_ _ | refine blk_drew ?_ | refine blk_alloc ?_ _)); exact BK222.out) hb); have n3_ := Aside0.mk (below_step (by repeat (first | (with_reducible first | exact HB.out | apply below_alloc | apply pw_below_drewN | apply below_drew1 | refine below_set ?_ GE212.out | refine below_set ?_ GE218.out | refine below_set ?_ GE222.out) | exact HB.out)) hb); clear BK212; clear BK218; clear BK222; clear HB; have BK212 := n0_; have BK218 := n1_; have BK222 := n2_; have HB := n3_; clear n0_ n1_ n2_ n3_; (try clear hb); (try clear hb2); (try clear hk); (try clear hi); have hnb33 := NB218_222.out; have hnc33 := NB222_218.out; have hcz34_0 : w32.cell? ⟨gb218, 0, none⟩ = some (.int .i64 t215) := (blk_cell BK218.out 0).trans rfl; have hcz34_1 : w32.cell? ⟨gb218, 1, none⟩ = some (.int .i64 t216) := (blk_cell BK218.out 1).trans rfl; have hfz34_0 := blk_frozen BK218.out 0; have hfz34_1 := blk_frozen BK218.out 1; have hcz35_0 : w32.cell? ⟨gb222, 0, none⟩ = some (.int .i64 t219) := (blk_cell BK222.out 0).trans rfl; have hcz35_1 : w32.cell? ⟨gb222, 1, none⟩ = some (.int .i64 t220) := (blk_cell BK222.out 1).trans rfl; have hfz35_0 := blk_frozen BK222.out 0; have hfz35_1 := blk_frozen BK222.out 1))
              go_meet
              case rel => exact ⟨_, (true), (by first | rfl | (simp; done) | (simp [*]; done)), H', ⟨by have := HJ2.out; first | omega | exact Nat.le_refl _⟩, ⟨by (with_reducible repeat (first | refine blk_drewN ?_ _ | refine blk_drew ?_ | refine blk_alloc ?_ _)); exact BK212.out⟩, ⟨by (with_reducible repeat (first | refine blk_drewN ?_ _ | refine blk_drew ?_ | refine blk_alloc ?_ _)); exact BK218.out⟩, ⟨by (with_reducible repeat (first | refine blk_drewN ?_ _ | refine blk_drew ?_ | refine blk_alloc ?_ _)); exact BK222.out⟩, ⟨by repeat (first | (with_reducible first | exact HB.out | apply below_alloc | apply pw_below_drewN | apply below_drew1 | refine below_set ?_ GE212.out | refine below_set ?_ GE218.out | refine below_set ?_ GE222.out) | exact HB.out)⟩⟩
            · rw [if_neg c28] at H
              have c28b0 : (!(t215 == t219) || (!(t216 == t220))) = false := by simpa using c28
              clear c28
              by_cases c36 : (t217 != t221) = true
              · rw [if_pos c36] at H
                have c36b0 : (t217 != t221) = true := c36
                (try (have c36b1 : decide (t217 = t221) = false := by simpa using c36))
                (try (have c36b2 : (t217 == t221) = false := by simpa using c36))
                (try (have c36b3 : ¬ (t217 = t221) := by simpa using c36))
                clear c36
                have H' := Aside0.mk H
                clear H
                have hnb37 := NB212_218.out
                have hnc37 := NB218_212.out
                have hnb38 := NB212_222.out
                have hnc38 := NB222_212.out
                have hcz39_0 : w22.cell? ⟨gb212, 0, none⟩ = some (.int .i64 t210) := (blk_cell BK212.out 0).trans rfl
                have hcz39_1 : w22.cell? ⟨gb212, 1, none⟩ = some (.int .i64 t211) := (blk_cell BK212.out 1).trans rfl
                have hfz39_0 := blk_frozen BK212.out 0
                have hfz39_1 := blk_frozen BK212.out 1
                go_wp2_with (first | ((with_reducible refine gate_callee (f := 5) rfl ?_); refine goesL_ (some 40) rfl rfl Tryd.func5 (by kernel_rfl) rfl #[.agg #[.int .i64 t210, .int .i64 t211]] rfl (by (try simp only [List.map_toArray, List.map_cons, List.map_nil]); first | done | rfl | (simp only [List.length_drop, List.length_take]; rfl)) ?_; (with_reducible refine (spec_BrdText.calls kj2 t210 t211 t223 _ A26.out).mono ?_); rintro e w40 ⟨rfl, hb⟩; refine ⟨_, rfl, ?_⟩; have n0_ := Aside0.mk (blk_below (g := gb212) (o := .cells #[.int .i64 t210, .int .i64 t211] 25 (0, 0)) (by (with_reducible repeat (first | refine blk_drewN ?_ _ | refine blk_drew ?_ | refine blk_alloc ?_ _)); refine blk_far ?_ NB212_222.out _; (with_reducible repeat (first | refine blk_drewN ?_ _ | refine blk_drew ?_ | refine blk_alloc ?_ _)); refine blk_far ?_ NB212_222.out _; (with_reducible repeat (first | refine blk_drewN ?_ _ | refine blk_drew ?_ | refine blk_alloc ?_ _)); exact BK212.out) hb); have n1_ := Aside0.mk (blk_below (g := gb218) (o := .cells #[.int .i64 t215, .int .i64 t216] 25 (0, 0)) (by (with_reducible repeat (first | refine blk_drewN ?_ _ | refine blk_drew ?_ | refine blk_alloc ?_ _)); refine blk_far ?_ NB218_222.out _; (with_reducible repeat (first | refine blk_drewN ?_ _ | refine blk_drew ?_ | refine blk_alloc ?_ _)); refine blk_far ?_ NB218_222.out _; (with_reducible repeat (first | refine blk_drewN ?_ _ | refine blk_drew ?_ | refine blk_alloc ?_ _)); exact BK218.out) hb); have n2_ := Aside0.mk (blk_below (g := gb222) (o := .cells #[.int .i64 t219, .int .i64 t220] 25 (0, 0)) (by (with_reducible repeat (first | refine blk_drewN ?_ _ | refine blk_drew ?_ | refine blk_alloc ?_ _)); refine blk_put (cs := #[.int .i64 t219, .int .i64 0]) ?_ 1 _ rfl; (with_reducible repeat (first | refine blk_drewN ?_ _ | refine blk_drew ?_ | refine blk_alloc ?_ _)); refine blk_put (cs := #[.int .i64 0, .int .i64 0]) ?_ 0 _ rfl; (with_reducible repeat (first | refine blk_drewN ?_ _ | refine blk_drew ?_ | refine blk_alloc ?_ _)); exact BK222.out) hb); have n3_ := Aside0.mk (below_step (by repeat (first | (with_reducible first | exact HB.out | apply below_alloc | apply pw_below_drewN | apply below_drew1 | refine below_set ?_ GE212.out | refine below_set ?_ GE218.out | refine below_set ?_ GE222.out) | exact HB.out)) hb); clear BK212; clear BK218; clear BK222; clear HB; have BK212 := n0_; have BK218 := n1_; have BK222 := n2_; have HB := n3_; clear n0_ n1_ n2_ n3_; (try clear hb); (try clear hb2); (try clear hk); (try clear hi); have hnb41 := NB218_222.out; have hnc41 := NB222_218.out; have hcz42_0 : w40.cell? ⟨gb218, 0, none⟩ = some (.int .i64 t215) := (blk_cell BK218.out 0).trans rfl; have hcz42_1 : w40.cell? ⟨gb218, 1, none⟩ = some (.int .i64 t216) := (blk_cell BK218.out 1).trans rfl; have hfz42_0 := blk_frozen BK218.out 0; have hfz42_1 := blk_frozen BK218.out 1; have hcz43_0 : w40.cell? ⟨gb222, 0, none⟩ = some (.int .i64 t219) := (blk_cell BK222.out 0).trans rfl; have hcz43_1 : w40.cell? ⟨gb222, 1, none⟩ = some (.int .i64 t220) := (blk_cell BK222.out 1).trans rfl; have hfz43_0 := blk_frozen BK222.out 0; have hfz43_1 := blk_frozen BK222.out 1))
                go_meet
                case rel => exact ⟨_, (true), (by first | rfl | (simp; done) | (simp [*]; done)), H', ⟨by have := HJ2.out; first | omega | exact Nat.le_refl _⟩, ⟨by (with_reducible repeat (first | refine blk_drewN ?_ _ | refine blk_drew ?_ | refine blk_alloc ?_ _)); exact BK212.out⟩, ⟨by (with_reducible repeat (first | refine blk_drewN ?_ _ | refine blk_drew ?_ | refine blk_alloc ?_ _)); exact BK218.out⟩, ⟨by (with_reducible repeat (first | refine blk_drewN ?_ _ | refine blk_drew ?_ | refine blk_alloc ?_ _)); exact BK222.out⟩, ⟨by repeat (first | (with_reducible first | exact HB.out | apply below_alloc | apply pw_below_drewN | apply below_drew1 | refine below_set ?_ GE212.out | refine below_set ?_ GE218.out | refine below_set ?_ GE222.out) | exact HB.out)⟩⟩
              · rw [if_neg c36] at H
                have c36b0 : (t217 != t221) = false := by simpa using c36
                (try (have c36b1 : decide (t217 = t221) = true := by simpa using c36))
                (try (have c36b2 : (t217 == t221) = true := by simpa using c36))
                clear c36
                by_cases c44 : t217 = true
                · subst c44
                  have H1 : ((impl_BrdText.f t215 t216).bind fun t224 => (if t224.toList = t214.toList then ((impl_BrdOk.f t210 t211).bind fun t225 => (laws_FnBrdText.j1 kj2 t213 ((t213.toList != ([] : List UInt8)) != t225) t210 t211)) else (laws_FnBrdText.j1 kj2 t213 true t210 t211))) = some r := by rw [if_pos rfl] at H; exact H
                  clear H
                  have H := H1
                  clear H1
                  replace H := Option.bind_eq_some_iff.mp H
                  obtain ⟨t224, A450, H⟩ := H
                  replace H : (if t224.toList = t214.toList then ((impl_BrdOk.f t210 t211).bind fun t225 => (laws_FnBrdText.j1 kj2 t213 ((t213.toList != ([] : List UInt8)) != t225) t210 t211)) else (laws_FnBrdText.j1 kj2 t213 true t210 t211)) = some r := H
                  have A45 := Aside0.mk A450
                  clear A450
                  by_cases c46 : t224.toList = t214.toList
                  · rw [if_pos c46] at H
                    have c46b0 : (t224.toList == t214.toList) = true := beq_iff_eq.mpr c46
                    have c46b1 : (t224.toList != t214.toList) = false := bne_eq_false_iff_eq.mpr c46
                    clear c46
                    replace H := Option.bind_eq_some_iff.mp H
                    obtain ⟨t225, A470, H⟩ := H
                    replace H : (laws_FnBrdText.j1 kj2 t213 ((t213.toList != ([] : List UInt8)) != t225) t210 t211) = some r := H
                    have A47 := Aside0.mk A470
                    clear A470
                    have H' := Aside0.mk H
                    clear H
                    have hnb48 := NB212_218.out
                    have hnc48 := NB218_212.out
                    have hnb49 := NB212_222.out
                    have hnc49 := NB222_212.out
                    have hcz50_0 : w22.cell? ⟨gb212, 0, none⟩ = some (.int .i64 t210) := (blk_cell BK212.out 0).trans rfl
                    have hcz50_1 : w22.cell? ⟨gb212, 1, none⟩ = some (.int .i64 t211) := (blk_cell BK212.out 1).trans rfl
                    have hfz50_0 := blk_frozen BK212.out 0
                    have hfz50_1 := blk_frozen BK212.out 1
                    go_wp2_with (first | ((with_reducible refine gate_callee (f := 5) rfl ?_); refine goesL_ (some 40) rfl rfl Tryd.func5 (by kernel_rfl) rfl #[.agg #[.int .i64 t210, .int .i64 t211]] rfl (by (try simp only [List.map_toArray, List.map_cons, List.map_nil]); first | done | rfl | (simp only [List.length_drop, List.length_take]; rfl)) ?_; (with_reducible refine (spec_BrdText.calls kj2 t210 t211 t223 _ A26.out).mono ?_); rintro e w51 ⟨rfl, hb⟩; refine ⟨_, rfl, ?_⟩; have n0_ := Aside0.mk (blk_below (g := gb212) (o := .cells #[.int .i64 t210, .int .i64 t211] 25 (0, 0)) (by (with_reducible repeat (first | refine blk_drewN ?_ _ | refine blk_drew ?_ | refine blk_alloc ?_ _)); refine blk_far ?_ NB212_222.out _; (with_reducible repeat (first | refine blk_drewN ?_ _ | refine blk_drew ?_ | refine blk_alloc ?_ _)); refine blk_far ?_ NB212_222.out _; (with_reducible repeat (first | refine blk_drewN ?_ _ | refine blk_drew ?_ | refine blk_alloc ?_ _)); exact BK212.out) hb); have n1_ := Aside0.mk (blk_below (g := gb218) (o := .cells #[.int .i64 t215, .int .i64 t216] 25 (0, 0)) (by (with_reducible repeat (first | refine blk_drewN ?_ _ | refine blk_drew ?_ | refine blk_alloc ?_ _)); refine blk_far ?_ NB218_222.out _; (with_reducible repeat (first | refine blk_drewN ?_ _ | refine blk_drew ?_ | refine blk_alloc ?_ _)); refine blk_far ?_ NB218_222.out _; (with_reducible repeat (first | refine blk_drewN ?_ _ | refine blk_drew ?_ | refine blk_alloc ?_ _)); exact BK218.out) hb); have n2_ := Aside0.mk (blk_below (g := gb222) (o := .cells #[.int .i64 t219, .int .i64 t220] 25 (0, 0)) (by (with_reducible repeat (first | refine blk_drewN ?_ _ | refine blk_drew ?_ | refine blk_alloc ?_ _)); refine blk_put (cs := #[.int .i64 t219, .int .i64 0]) ?_ 1 _ rfl; (with_reducible repeat (first | refine blk_drewN ?_ _ | refine blk_drew ?_ | refine blk_alloc ?_ _)); refine blk_put (cs := #[.int .i64 0, .int .i64 0]) ?_ 0 _ rfl; (with_reducible repeat (first | refine blk_drewN ?_ _ | refine blk_drew ?_ | refine blk_alloc ?_ _)); exact BK222.out) hb); have n3_ := Aside0.mk (below_step (by repeat (first | (with_reducible first | exact HB.out | apply below_alloc | apply pw_below_drewN | apply below_drew1 | refine below_set ?_ GE212.out | refine below_set ?_ GE218.out | refine below_set ?_ GE222.out) | exact HB.out)) hb); clear BK212; clear BK218; clear BK222; clear HB; have BK212 := n0_; have BK218 := n1_; have BK222 := n2_; have HB := n3_; clear n0_ n1_ n2_ n3_; (try clear hb); (try clear hb2); (try clear hk); (try clear hi); have hnb52 := NB218_222.out; have hnc52 := NB222_218.out; have hcz53_0 : w51.cell? ⟨gb218, 0, none⟩ = some (.int .i64 t215) := (blk_cell BK218.out 0).trans rfl; have hcz53_1 : w51.cell? ⟨gb218, 1, none⟩ = some (.int .i64 t216) := (blk_cell BK218.out 1).trans rfl; have hfz53_0 := blk_frozen BK218.out 0; have hfz53_1 := blk_frozen BK218.out 1; have hcz54_0 : w51.cell? ⟨gb222, 0, none⟩ = some (.int .i64 t219) := (blk_cell BK222.out 0).trans rfl; have hcz54_1 : w51.cell? ⟨gb222, 1, none⟩ = some (.int .i64 t220) := (blk_cell BK222.out 1).trans rfl; have hfz54_0 := blk_frozen BK222.out 0; have hfz54_1 := blk_frozen BK222.out 1) | (go_at_call 7; (with_reducible refine (impl_BrdText.calls t215 t216 t224 _ A45.out).mono ?_); rintro e w55 ⟨rfl, hb⟩; have n0_ := Aside0.mk (blk_below (g := gb212) (o := .cells #[.int .i64 t210, .int .i64 t211] 25 (0, 0)) (by (with_reducible repeat (first | refine blk_drewN ?_ _ | refine blk_drew ?_ | refine blk_alloc ?_ _)); exact BK212.out) hb); have n1_ := Aside0.mk (blk_below (g := gb218) (o := .cells #[.int .i64 t215, .int .i64 t216] 25 (0, 0)) (by (with_reducible repeat (first | refine blk_drewN ?_ _ | refine blk_drew ?_ | refine blk_alloc ?_ _)); exact BK218.out) hb); have n2_ := Aside0.mk (blk_below (g := gb222) (o := .cells #[.int .i64 t219, .int .i64 t220] 25 (0, 0)) (by (with_reducible repeat (first | refine blk_drewN ?_ _ | refine blk_drew ?_ | refine blk_alloc ?_ _)); exact BK222.out) hb); have n3_ := Aside0.mk (below_step (by repeat (first | (with_reducible first | exact HB.out | apply below_alloc | apply pw_below_drewN | apply below_drew1 | refine below_set ?_ GE212.out | refine below_set ?_ GE218.out | refine below_set ?_ GE222.out) | exact HB.out)) hb); clear BK212; clear BK218; clear BK222; clear HB; have BK212 := n0_; have BK218 := n1_; have BK222 := n2_; have HB := n3_; clear n0_ n1_ n2_ n3_; (try clear hb); (try clear hb2); (try clear hk); (try clear hi); have hcz56_0 : w55.cell? ⟨gb212, 0, none⟩ = some (.int .i64 t210) := (blk_cell BK212.out 0).trans rfl; have hcz56_1 : w55.cell? ⟨gb212, 1, none⟩ = some (.int .i64 t211) := (blk_cell BK212.out 1).trans rfl; have hfz56_0 := blk_frozen BK212.out 0; have hfz56_1 := blk_frozen BK212.out 1) | (go_at_call 12; (with_reducible refine (impl_BrdOk.calls t210 t211 t225 _ A47.out).mono ?_); rintro e w57 ⟨rfl, hb⟩; have n0_ := Aside0.mk (blk_below (g := gb212) (o := .cells #[.int .i64 t210, .int .i64 t211] 25 (0, 0)) (by (with_reducible repeat (first | refine blk_drewN ?_ _ | refine blk_drew ?_ | refine blk_alloc ?_ _)); exact BK212.out) hb); have n1_ := Aside0.mk (blk_below (g := gb218) (o := .cells #[.int .i64 t215, .int .i64 t216] 25 (0, 0)) (by (with_reducible repeat (first | refine blk_drewN ?_ _ | refine blk_drew ?_ | refine blk_alloc ?_ _)); exact BK218.out) hb); have n2_ := Aside0.mk (blk_below (g := gb222) (o := .cells #[.int .i64 t219, .int .i64 t220] 25 (0, 0)) (by (with_reducible repeat (first | refine blk_drewN ?_ _ | refine blk_drew ?_ | refine blk_alloc ?_ _)); exact BK222.out) hb); have n3_ := Aside0.mk (below_step (by repeat (first | (with_reducible first | exact HB.out | apply below_alloc | apply pw_below_drewN | apply below_drew1 | refine below_set ?_ GE212.out | refine below_set ?_ GE218.out | refine below_set ?_ GE222.out) | exact HB.out)) hb); clear BK212; clear BK218; clear BK222; clear HB; have BK212 := n0_; have BK218 := n1_; have BK222 := n2_; have HB := n3_; clear n0_ n1_ n2_ n3_; (try clear hb); (try clear hb2); (try clear hk); (try clear hi)))
                    go_meet
                    case rel => exact ⟨_, (((t213.toList != ([] : List UInt8)) != t225)), (by first | rfl | (simp; done) | (simp [*]; done) | (generalize t213.toList = l_; cases l_ <;> cases t225 <;> first | rfl | (simp; done))), H', ⟨by have := HJ2.out; first | omega | exact Nat.le_refl _⟩, ⟨by (with_reducible repeat (first | refine blk_drewN ?_ _ | refine blk_drew ?_ | refine blk_alloc ?_ _)); exact BK212.out⟩, ⟨by (with_reducible repeat (first | refine blk_drewN ?_ _ | refine blk_drew ?_ | refine blk_alloc ?_ _)); exact BK218.out⟩, ⟨by (with_reducible repeat (first | refine blk_drewN ?_ _ | refine blk_drew ?_ | refine blk_alloc ?_ _)); exact BK222.out⟩, ⟨by repeat (first | (with_reducible first | exact HB.out | apply below_alloc | apply pw_below_drewN | apply below_drew1 | refine below_set ?_ GE212.out | refine below_set ?_ GE218.out | refine below_set ?_ GE222.out) | exact HB.out)⟩⟩
                  · rw [if_neg c46] at H
                    have c46b0 : (t224.toList == t214.toList) = false := beq_eq_false_iff_ne.mpr c46
                    have c46b1 : (t224.toList != t214.toList) = true := bne_iff_ne.mpr c46
                    have H' := Aside0.mk H
                    clear H
                    have hnb58 := NB212_218.out
                    have hnc58 := NB218_212.out
                    have hnb59 := NB212_222.out
                    have hnc59 := NB222_212.out
                    have hcz60_0 : w22.cell? ⟨gb212, 0, none⟩ = some (.int .i64 t210) := (blk_cell BK212.out 0).trans rfl
                    have hcz60_1 : w22.cell? ⟨gb212, 1, none⟩ = some (.int .i64 t211) := (blk_cell BK212.out 1).trans rfl
                    have hfz60_0 := blk_frozen BK212.out 0
                    have hfz60_1 := blk_frozen BK212.out 1
                    go_wp2_with (first | ((with_reducible refine gate_callee (f := 5) rfl ?_); refine goesL_ (some 40) rfl rfl Tryd.func5 (by kernel_rfl) rfl #[.agg #[.int .i64 t210, .int .i64 t211]] rfl (by (try simp only [List.map_toArray, List.map_cons, List.map_nil]); first | done | rfl | (simp only [List.length_drop, List.length_take]; rfl)) ?_; (with_reducible refine (spec_BrdText.calls kj2 t210 t211 t223 _ A26.out).mono ?_); rintro e w61 ⟨rfl, hb⟩; refine ⟨_, rfl, ?_⟩; have n0_ := Aside0.mk (blk_below (g := gb212) (o := .cells #[.int .i64 t210, .int .i64 t211] 25 (0, 0)) (by (with_reducible repeat (first | refine blk_drewN ?_ _ | refine blk_drew ?_ | refine blk_alloc ?_ _)); refine blk_far ?_ NB212_222.out _; (with_reducible repeat (first | refine blk_drewN ?_ _ | refine blk_drew ?_ | refine blk_alloc ?_ _)); refine blk_far ?_ NB212_222.out _; (with_reducible repeat (first | refine blk_drewN ?_ _ | refine blk_drew ?_ | refine blk_alloc ?_ _)); exact BK212.out) hb); have n1_ := Aside0.mk (blk_below (g := gb218) (o := .cells #[.int .i64 t215, .int .i64 t216] 25 (0, 0)) (by (with_reducible repeat (first | refine blk_drewN ?_ _ | refine blk_drew ?_ | refine blk_alloc ?_ _)); refine blk_far ?_ NB218_222.out _; (with_reducible repeat (first | refine blk_drewN ?_ _ | refine blk_drew ?_ | refine blk_alloc ?_ _)); refine blk_far ?_ NB218_222.out _; (with_reducible repeat (first | refine blk_drewN ?_ _ | refine blk_drew ?_ | refine blk_alloc ?_ _)); exact BK218.out) hb); have n2_ := Aside0.mk (blk_below (g := gb222) (o := .cells #[.int .i64 t219, .int .i64 t220] 25 (0, 0)) (by (with_reducible repeat (first | refine blk_drewN ?_ _ | refine blk_drew ?_ | refine blk_alloc ?_ _)); refine blk_put (cs := #[.int .i64 t219, .int .i64 0]) ?_ 1 _ rfl; (with_reducible repeat (first | refine blk_drewN ?_ _ | refine blk_drew ?_ | refine blk_alloc ?_ _)); refine blk_put (cs := #[.int .i64 0, .int .i64 0]) ?_ 0 _ rfl; (with_reducible repeat (first | refine blk_drewN ?_ _ | refine blk_drew ?_ | refine blk_alloc ?_ _)); exact BK222.out) hb); have n3_ := Aside0.mk (below_step (by repeat (first | (with_reducible first | exact HB.out | apply below_alloc | apply pw_below_drewN | apply below_drew1 | refine below_set ?_ GE212.out | refine below_set ?_ GE218.out | refine below_set ?_ GE222.out) | exact HB.out)) hb); clear BK212; clear BK218; clear BK222; clear HB; have BK212 := n0_; have BK218 := n1_; have BK222 := n2_; have HB := n3_; clear n0_ n1_ n2_ n3_; (try clear hb); (try clear hb2); (try clear hk); (try clear hi); have hnb62 := NB218_222.out; have hnc62 := NB222_218.out; have hcz63_0 : w61.cell? ⟨gb218, 0, none⟩ = some (.int .i64 t215) := (blk_cell BK218.out 0).trans rfl; have hcz63_1 : w61.cell? ⟨gb218, 1, none⟩ = some (.int .i64 t216) := (blk_cell BK218.out 1).trans rfl; have hfz63_0 := blk_frozen BK218.out 0; have hfz63_1 := blk_frozen BK218.out 1; have hcz64_0 : w61.cell? ⟨gb222, 0, none⟩ = some (.int .i64 t219) := (blk_cell BK222.out 0).trans rfl; have hcz64_1 : w61.cell? ⟨gb222, 1, none⟩ = some (.int .i64 t220) := (blk_cell BK222.out 1).trans rfl; have hfz64_0 := blk_frozen BK222.out 0; have hfz64_1 := blk_frozen BK222.out 1) | (go_at_call 7; (with_reducible refine (impl_BrdText.calls t215 t216 t224 _ A45.out).mono ?_); rintro e w65 ⟨rfl, hb⟩; have n0_ := Aside0.mk (blk_below (g := gb212) (o := .cells #[.int .i64 t210, .int .i64 t211] 25 (0, 0)) (by (with_reducible repeat (first | refine blk_drewN ?_ _ | refine blk_drew ?_ | refine blk_alloc ?_ _)); exact BK212.out) hb); have n1_ := Aside0.mk (blk_below (g := gb218) (o := .cells #[.int .i64 t215, .int .i64 t216] 25 (0, 0)) (by (with_reducible repeat (first | refine blk_drewN ?_ _ | refine blk_drew ?_ | refine blk_alloc ?_ _)); exact BK218.out) hb); have n2_ := Aside0.mk (blk_below (g := gb222) (o := .cells #[.int .i64 t219, .int .i64 t220] 25 (0, 0)) (by (with_reducible repeat (first | refine blk_drewN ?_ _ | refine blk_drew ?_ | refine blk_alloc ?_ _)); exact BK222.out) hb); have n3_ := Aside0.mk (below_step (by repeat (first | (with_reducible first | exact HB.out | apply below_alloc | apply pw_below_drewN | apply below_drew1 | refine below_set ?_ GE212.out | refine below_set ?_ GE218.out | refine below_set ?_ GE222.out) | exact HB.out)) hb); clear BK212; clear BK218; clear BK222; clear HB; have BK212 := n0_; have BK218 := n1_; have BK222 := n2_; have HB := n3_; clear n0_ n1_ n2_ n3_; (try clear hb); (try clear hb2); (try clear hk); (try clear hi)))
                    go_meet
                    case rel => exact ⟨_, (true), (by first | rfl | (simp; done) | (simp [*]; done)), H', ⟨by have := HJ2.out; first | omega | exact Nat.le_refl _⟩, ⟨by (with_reducible repeat (first | refine blk_drewN ?_ _ | refine blk_drew ?_ | refine blk_alloc ?_ _)); exact BK212.out⟩, ⟨by (with_reducible repeat (first | refine blk_drewN ?_ _ | refine blk_drew ?_ | refine blk_alloc ?_ _)); exact BK218.out⟩, ⟨by (with_reducible repeat (first | refine blk_drewN ?_ _ | refine blk_drew ?_ | refine blk_alloc ?_ _)); exact BK222.out⟩, ⟨by repeat (first | (with_reducible first | exact HB.out | apply below_alloc | apply pw_below_drewN | apply below_drew1 | refine below_set ?_ GE212.out | refine below_set ?_ GE218.out | refine below_set ?_ GE222.out) | exact HB.out)⟩⟩
                · replace c44 := Bool.eq_false_iff.mpr c44
                  subst c44
                  have H1 : ((impl_BrdOk.f t210 t211).bind fun t226 => (laws_FnBrdText.j1 kj2 t213 ((t213.toList != ([] : List UInt8)) != t226) t210 t211)) = some r := by rw [if_neg (show ¬ (false = true) by decide)] at H; exact H
                  clear H
                  have H := H1
                  clear H1
                  replace H := Option.bind_eq_some_iff.mp H
                  obtain ⟨t226, A660, H⟩ := H
                  replace H : (laws_FnBrdText.j1 kj2 t213 ((t213.toList != ([] : List UInt8)) != t226) t210 t211) = some r := H
                  have A66 := Aside0.mk A660
                  clear A660
                  have H' := Aside0.mk H
                  clear H
                  have hnb67 := NB212_218.out
                  have hnc67 := NB218_212.out
                  have hnb68 := NB212_222.out
                  have hnc68 := NB222_212.out
                  have hcz69_0 : w22.cell? ⟨gb212, 0, none⟩ = some (.int .i64 t210) := (blk_cell BK212.out 0).trans rfl
                  have hcz69_1 : w22.cell? ⟨gb212, 1, none⟩ = some (.int .i64 t211) := (blk_cell BK212.out 1).trans rfl
                  have hfz69_0 := blk_frozen BK212.out 0
                  have hfz69_1 := blk_frozen BK212.out 1
                  go_wp2_with (first | ((with_reducible refine gate_callee (f := 5) rfl ?_); refine goesL_ (some 40) rfl rfl Tryd.func5 (by kernel_rfl) rfl #[.agg #[.int .i64 t210, .int .i64 t211]] rfl (by (try simp only [List.map_toArray, List.map_cons, List.map_nil]); first | done | rfl | (simp only [List.length_drop, List.length_take]; rfl)) ?_; (with_reducible refine (spec_BrdText.calls kj2 t210 t211 t223 _ A26.out).mono ?_); rintro e w70 ⟨rfl, hb⟩; refine ⟨_, rfl, ?_⟩; have n0_ := Aside0.mk (blk_below (g := gb212) (o := .cells #[.int .i64 t210, .int .i64 t211] 25 (0, 0)) (by (with_reducible repeat (first | refine blk_drewN ?_ _ | refine blk_drew ?_ | refine blk_alloc ?_ _)); refine blk_far ?_ NB212_222.out _; (with_reducible repeat (first | refine blk_drewN ?_ _ | refine blk_drew ?_ | refine blk_alloc ?_ _)); refine blk_far ?_ NB212_222.out _; (with_reducible repeat (first | refine blk_drewN ?_ _ | refine blk_drew ?_ | refine blk_alloc ?_ _)); exact BK212.out) hb); have n1_ := Aside0.mk (blk_below (g := gb218) (o := .cells #[.int .i64 t215, .int .i64 t216] 25 (0, 0)) (by (with_reducible repeat (first | refine blk_drewN ?_ _ | refine blk_drew ?_ | refine blk_alloc ?_ _)); refine blk_far ?_ NB218_222.out _; (with_reducible repeat (first | refine blk_drewN ?_ _ | refine blk_drew ?_ | refine blk_alloc ?_ _)); refine blk_far ?_ NB218_222.out _; (with_reducible repeat (first | refine blk_drewN ?_ _ | refine blk_drew ?_ | refine blk_alloc ?_ _)); exact BK218.out) hb); have n2_ := Aside0.mk (blk_below (g := gb222) (o := .cells #[.int .i64 t219, .int .i64 t220] 25 (0, 0)) (by (with_reducible repeat (first | refine blk_drewN ?_ _ | refine blk_drew ?_ | refine blk_alloc ?_ _)); refine blk_put (cs := #[.int .i64 t219, .int .i64 0]) ?_ 1 _ rfl; (with_reducible repeat (first | refine blk_drewN ?_ _ | refine blk_drew ?_ | refine blk_alloc ?_ _)); refine blk_put (cs := #[.int .i64 0, .int .i64 0]) ?_ 0 _ rfl; (with_reducible repeat (first | refine blk_drewN ?_ _ | refine blk_drew ?_ | refine blk_alloc ?_ _)); exact BK222.out) hb); have n3_ := Aside0.mk (below_step (by repeat (first | (with_reducible first | exact HB.out | apply below_alloc | apply pw_below_drewN | apply below_drew1 | refine below_set ?_ GE212.out | refine below_set ?_ GE218.out | refine below_set ?_ GE222.out) | exact HB.out)) hb); clear BK212; clear BK218; clear BK222; clear HB; have BK212 := n0_; have BK218 := n1_; have BK222 := n2_; have HB := n3_; clear n0_ n1_ n2_ n3_; (try clear hb); (try clear hb2); (try clear hk); (try clear hi); have hnb71 := NB218_222.out; have hnc71 := NB222_218.out; have hcz72_0 : w70.cell? ⟨gb218, 0, none⟩ = some (.int .i64 t215) := (blk_cell BK218.out 0).trans rfl; have hcz72_1 : w70.cell? ⟨gb218, 1, none⟩ = some (.int .i64 t216) := (blk_cell BK218.out 1).trans rfl; have hfz72_0 := blk_frozen BK218.out 0; have hfz72_1 := blk_frozen BK218.out 1; have hcz73_0 : w70.cell? ⟨gb222, 0, none⟩ = some (.int .i64 t219) := (blk_cell BK222.out 0).trans rfl; have hcz73_1 : w70.cell? ⟨gb222, 1, none⟩ = some (.int .i64 t220) := (blk_cell BK222.out 1).trans rfl; have hfz73_0 := blk_frozen BK222.out 0; have hfz73_1 := blk_frozen BK222.out 1; have hcz74_0 : w70.cell? ⟨gb212, 0, none⟩ = some (.int .i64 t210) := (blk_cell BK212.out 0).trans rfl; have hcz74_1 : w70.cell? ⟨gb212, 1, none⟩ = some (.int .i64 t211) := (blk_cell BK212.out 1).trans rfl; have hfz74_0 := blk_frozen BK212.out 0; have hfz74_1 := blk_frozen BK212.out 1) | (go_at_call 12; (with_reducible refine (impl_BrdOk.calls t210 t211 t226 _ A66.out).mono ?_); rintro e w75 ⟨rfl, hb⟩; have n0_ := Aside0.mk (blk_below (g := gb212) (o := .cells #[.int .i64 t210, .int .i64 t211] 25 (0, 0)) (by (with_reducible repeat (first | refine blk_drewN ?_ _ | refine blk_drew ?_ | refine blk_alloc ?_ _)); exact BK212.out) hb); have n1_ := Aside0.mk (blk_below (g := gb218) (o := .cells #[.int .i64 t215, .int .i64 t216] 25 (0, 0)) (by (with_reducible repeat (first | refine blk_drewN ?_ _ | refine blk_drew ?_ | refine blk_alloc ?_ _)); exact BK218.out) hb); have n2_ := Aside0.mk (blk_below (g := gb222) (o := .cells #[.int .i64 t219, .int .i64 t220] 25 (0, 0)) (by (with_reducible repeat (first | refine blk_drewN ?_ _ | refine blk_drew ?_ | refine blk_alloc ?_ _)); exact BK222.out) hb); have n3_ := Aside0.mk (below_step (by repeat (first | (with_reducible first | exact HB.out | apply below_alloc | apply pw_below_drewN | apply below_drew1 | refine below_set ?_ GE212.out | refine below_set ?_ GE218.out | refine below_set ?_ GE222.out) | exact HB.out)) hb); clear BK212; clear BK218; clear BK222; clear HB; have BK212 := n0_; have BK218 := n1_; have BK222 := n2_; have HB := n3_; clear n0_ n1_ n2_ n3_; (try clear hb); (try clear hb2); (try clear hk); (try clear hi)))
                  go_meet
                  case rel => exact ⟨_, (((t213.toList != ([] : List UInt8)) != t226)), (by first | rfl | (simp; done) | (simp [*]; done) | (generalize t213.toList = l_; cases l_ <;> cases t226 <;> first | rfl | (simp; done))), H', ⟨by have := HJ2.out; first | omega | exact Nat.le_refl _⟩, ⟨by (with_reducible repeat (first | refine blk_drewN ?_ _ | refine blk_drew ?_ | refine blk_alloc ?_ _)); exact BK212.out⟩, ⟨by (with_reducible repeat (first | refine blk_drewN ?_ _ | refine blk_drew ?_ | refine blk_alloc ?_ _)); exact BK218.out⟩, ⟨by (with_reducible repeat (first | refine blk_drewN ?_ _ | refine blk_drew ?_ | refine blk_alloc ?_ _)); exact BK222.out⟩, ⟨by repeat (first | (with_reducible first | exact HB.out | apply below_alloc | apply pw_below_drewN | apply below_drew1 | refine below_set ?_ GE212.out | refine below_set ?_ GE218.out | refine below_set ?_ GE222.out) | exact HB.out)⟩⟩
          · rw [if_neg c27] at H
            have c27b0 : (t213.toList == t223.toList) = false := beq_eq_false_iff_ne.mpr c27
            have c27b1 : (t213.toList != t223.toList) = true := bne_iff_ne.mpr c27
            (first | rw [c27b0] | (simp only [i64_w, i32_w]; rw [c27b0]) | skip)
            have H' := Aside0.mk H
            clear H
            have hnb76 := NB212_218.out
            have hnc76 := NB218_212.out
            have hnb77 := NB212_222.out
            have hnc77 := NB222_212.out
            have hcz78_0 : w22.cell? ⟨gb212, 0, none⟩ = some (.int .i64 t210) := (blk_cell BK212.out 0).trans rfl
            have hcz78_1 : w22.cell? ⟨gb212, 1, none⟩ = some (.int .i64 t211) := (blk_cell BK212.out 1).trans rfl
            have hfz78_0 := blk_frozen BK212.out 0
            have hfz78_1 := blk_frozen BK212.out 1
            go_wp2_with (first | ((with_reducible refine gate_callee (f := 5) rfl ?_); refine goesL_ (some 40) rfl rfl Tryd.func5 (by kernel_rfl) rfl #[.agg #[.int .i64 t210, .int .i64 t211]] rfl (by (try simp only [List.map_toArray, List.map_cons, List.map_nil]); first | done | rfl | (simp only [List.length_drop, List.length_take]; rfl)) ?_; (with_reducible refine (spec_BrdText.calls kj2 t210 t211 t223 _ A26.out).mono ?_); rintro e w79 ⟨rfl, hb⟩; refine ⟨_, rfl, ?_⟩; have n0_ := Aside0.mk (blk_below (g := gb212) (o := .cells #[.int .i64 t210, .int .i64 t211] 25 (0, 0)) (by (with_reducible repeat (first | refine blk_drewN ?_ _ | refine blk_drew ?_ | refine blk_alloc ?_ _)); refine blk_far ?_ NB212_222.out _; (with_reducible repeat (first | refine blk_drewN ?_ _ | refine blk_drew ?_ | refine blk_alloc ?_ _)); refine blk_far ?_ NB212_222.out _; (with_reducible repeat (first | refine blk_drewN ?_ _ | refine blk_drew ?_ | refine blk_alloc ?_ _)); exact BK212.out) hb); have n1_ := Aside0.mk (blk_below (g := gb218) (o := .cells #[.int .i64 t215, .int .i64 t216] 25 (0, 0)) (by (with_reducible repeat (first | refine blk_drewN ?_ _ | refine blk_drew ?_ | refine blk_alloc ?_ _)); refine blk_far ?_ NB218_222.out _; (with_reducible repeat (first | refine blk_drewN ?_ _ | refine blk_drew ?_ | refine blk_alloc ?_ _)); refine blk_far ?_ NB218_222.out _; (with_reducible repeat (first | refine blk_drewN ?_ _ | refine blk_drew ?_ | refine blk_alloc ?_ _)); exact BK218.out) hb); have n2_ := Aside0.mk (blk_below (g := gb222) (o := .cells #[.int .i64 t219, .int .i64 t220] 25 (0, 0)) (by (with_reducible repeat (first | refine blk_drewN ?_ _ | refine blk_drew ?_ | refine blk_alloc ?_ _)); refine blk_put (cs := #[.int .i64 t219, .int .i64 0]) ?_ 1 _ rfl; (with_reducible repeat (first | refine blk_drewN ?_ _ | refine blk_drew ?_ | refine blk_alloc ?_ _)); refine blk_put (cs := #[.int .i64 0, .int .i64 0]) ?_ 0 _ rfl; (with_reducible repeat (first | refine blk_drewN ?_ _ | refine blk_drew ?_ | refine blk_alloc ?_ _)); exact BK222.out) hb); have n3_ := Aside0.mk (below_step (by repeat (first | (with_reducible first | exact HB.out | apply below_alloc | apply pw_below_drewN | apply below_drew1 | refine below_set ?_ GE212.out | refine below_set ?_ GE218.out | refine below_set ?_ GE222.out) | exact HB.out)) hb); clear BK212; clear BK218; clear BK222; clear HB; have BK212 := n0_; have BK218 := n1_; have BK222 := n2_; have HB := n3_; clear n0_ n1_ n2_ n3_; (try clear hb); (try clear hb2); (try clear hk); (try clear hi)))
            go_meet
            case rel => exact ⟨_, (true), (by first | rfl | (simp; done) | (simp [*]; done)), H', ⟨by have := HJ2.out; first | omega | exact Nat.le_refl _⟩, ⟨by (with_reducible repeat (first | refine blk_drewN ?_ _ | refine blk_drew ?_ | refine blk_alloc ?_ _)); exact BK212.out⟩, ⟨by (with_reducible repeat (first | refine blk_drewN ?_ _ | refine blk_drew ?_ | refine blk_alloc ?_ _)); exact BK218.out⟩, ⟨by (with_reducible repeat (first | refine blk_drewN ?_ _ | refine blk_drew ?_ | refine blk_alloc ?_ _)); exact BK222.out⟩, ⟨by repeat (first | (with_reducible first | exact HB.out | apply below_alloc | apply pw_below_drewN | apply below_drew1 | refine below_set ?_ GE212.out | refine below_set ?_ GE218.out | refine below_set ?_ GE222.out) | exact HB.out)⟩⟩
        case rest =>
          clear HC11
          try clear c1
          try clear c2
          try clear p2
          try clear c3
          try clear c4
          try clear c4b0
          try clear c4b1
          try clear c5
          try clear c6
          try clear c7
          try clear c8
          try clear c9
          try clear c10
          try clear c11
          try clear c19
          try clear c23
          try clear c24
          try clear c27
          try clear c27b0
          try clear c27b1
          try clear c28
          try clear c28b0
          try clear c29
          try clear c30
          try clear c33
          try clear c36
          try clear c36b0
          try clear c36b1
          try clear c36b2
          try clear c37
          try clear c38
          try clear c41
          try clear c44
          try clear c46
          try clear c46b0
          try clear c46b1
          try clear c48
          try clear c49
          try clear c52
          try clear c58
          try clear c59
          try clear c62
          try clear c67
          try clear c68
          try clear c71
          try clear c76
          try clear c77
          try clear hcz14_0
          try clear hcz14_1
          try clear hcz20_0
          try clear hcz20_1
          try clear hcz25_0
          try clear hcz25_1
          try clear hcz31_0
          try clear hcz31_1
          try clear hcz34_0
          try clear hcz34_1
          try clear hcz35_0
          try clear hcz35_1
          try clear hcz39_0
          try clear hcz39_1
          try clear hcz42_0
          try clear hcz42_1
          try clear hcz43_0
          try clear hcz43_1
          try clear hcz50_0
          try clear hcz50_1
          try clear hcz53_0
          try clear hcz53_1
          try clear hcz54_0
          try clear hcz54_1
          try clear hcz56_0
          try clear hcz56_1
          try clear hcz60_0
          try clear hcz60_1
          try clear hcz63_0
          try clear hcz63_1
          try clear hcz64_0
          try clear hcz64_1
          try clear hcz69_0
          try clear hcz69_1
          try clear hcz72_0
          try clear hcz72_1
          try clear hcz73_0
          try clear hcz73_1
          try clear hcz74_0
          try clear hcz74_1
          try clear hcz78_0
          try clear hcz78_1
          try clear hfz14_0
          try clear hfz14_1
          try clear hfz20_0
          try clear hfz20_1
          try clear hfz25_0
          try clear hfz25_1
          try clear hfz31_0
          try clear hfz31_1
          try clear hfz34_0
          try clear hfz34_1
          try clear hfz35_0
          try clear hfz35_1
          try clear hfz39_0
          try clear hfz39_1
          try clear hfz42_0
          try clear hfz42_1
          try clear hfz43_0
          try clear hfz43_1
          try clear hfz50_0
          try clear hfz50_1
          try clear hfz53_0
          try clear hfz53_1
          try clear hfz54_0
          try clear hfz54_1
          try clear hfz56_0
          try clear hfz56_1
          try clear hfz60_0
          try clear hfz60_1
          try clear hfz63_0
          try clear hfz63_1
          try clear hfz64_0
          try clear hfz64_1
          try clear hfz69_0
          try clear hfz69_1
          try clear hfz72_0
          try clear hfz72_1
          try clear hfz73_0
          try clear hfz73_1
          try clear hfz74_0
          try clear hfz74_1
          try clear hfz78_0
          try clear hfz78_1
          try clear p2
          obtain ⟨kq, x67_10, rfl, HA, HJ10, BK212, BK218, BK222, HB⟩ := hcut
          cases kq with
          | zero => exact absurd HA.out (by simp [laws_FnBrdText.j1])
          | succ kj10 =>
            have H := HA.out
            clear HA
            simp only [laws_FnBrdText.j1] at H
            by_cases c80 : x67_10 = true
            · subst c80
              have H1 : (some false) = some r := by rw [if_pos rfl] at H; exact H
              clear H
              have H := H1
              clear H1
              obtain rfl := Option.some.inj H
              go_wp2
              go_ret
              exact ⟨by first | rfl | (simp [errW_none, errW_some] <;> rfl) | (simp [*, errW_none, errW_some] <;> rfl), by repeat (first | (with_reducible first | exact HB.out | apply below_alloc | apply pw_below_drewN | apply below_drew1 | refine below_set ?_ GE212.out | refine below_set ?_ GE218.out | refine below_set ?_ GE222.out) | exact HB.out)⟩
            · replace c80 := Bool.eq_false_iff.mpr c80
              subst c80
              have H1 : (if t213.toList = ([] : List UInt8) then ((impl_BrdText.f 3 2).bind fun t227 => (some (t227.toList == ([51, 50] : List UInt8)))) else ((impl_BrdRead.f t213).bind fun bt228 => (if bt228.2.2 = true then (some (bt228.1 == t210 && (bt228.2.1 == t211))) else (some false)))) = some r := by rw [if_neg (show ¬ (false = true) by decide)] at H; exact H
              clear H
              have H := H1
              clear H1
              by_cases c81 : t213.toList = ([] : List UInt8)
              · rw [if_pos c81] at H
                have c81b0 : (t213.toList == ([] : List UInt8)) = true := beq_iff_eq.mpr c81
                have c81b1 : (t213.toList != ([] : List UInt8)) = false := bne_eq_false_iff_eq.mpr c81
                clear c81
                replace H := Option.bind_eq_some_iff.mp H
                obtain ⟨t227, A820, H⟩ := H
                replace H : (some (t227.toList == ([51, 50] : List UInt8))) = some r := H
                have A82 := Aside0.mk A820
                clear A820
                obtain rfl := Option.some.inj H
                go_wp2_with (first | ((with_reducible refine gate_callee (f := 7) rfl ?_); refine goesL_ (some 71) rfl rfl Tryd.func7 (by kernel_rfl) rfl #[.agg #[.int .i64 3, .int .i64 2]] rfl (by (try simp only [List.map_toArray, List.map_cons, List.map_nil]); first | done | rfl | (simp only [List.length_drop, List.length_take]; rfl)) ?_; (with_reducible refine (impl_BrdText.calls 3 2 t227 _ A82.out).mono ?_); rintro e w83 ⟨rfl, hb⟩; refine ⟨_, rfl, ?_⟩; have n0_ := Aside0.mk (blk_below (g := gb212) (o := .cells #[.int .i64 t210, .int .i64 t211] 25 (0, 0)) (by (with_reducible repeat (first | refine blk_drewN ?_ _ | refine blk_drew ?_ | refine blk_alloc ?_ _)); exact BK212.out) hb); have n1_ := Aside0.mk (blk_below (g := gb218) (o := .cells #[.int .i64 t215, .int .i64 t216] 25 (0, 0)) (by (with_reducible repeat (first | refine blk_drewN ?_ _ | refine blk_drew ?_ | refine blk_alloc ?_ _)); exact BK218.out) hb); have n2_ := Aside0.mk (blk_below (g := gb222) (o := .cells #[.int .i64 t219, .int .i64 t220] 25 (0, 0)) (by (with_reducible repeat (first | refine blk_drewN ?_ _ | refine blk_drew ?_ | refine blk_alloc ?_ _)); exact BK222.out) hb); have n3_ := Aside0.mk (below_step (by repeat (first | (with_reducible first | exact HB.out | apply below_alloc | apply pw_below_drewN | apply below_drew1 | refine below_set ?_ GE212.out | refine below_set ?_ GE218.out | refine below_set ?_ GE222.out) | exact HB.out)) hb); clear BK212; clear BK218; clear BK222; clear HB; have BK212 := n0_; have BK218 := n1_; have BK222 := n2_; have HB := n3_; clear n0_ n1_ n2_ n3_; (try clear hb); (try clear hb2); (try clear hk); (try clear hi)))
                go_ret
                exact ⟨by first | rfl | (simp [errW_none, errW_some] <;> rfl) | (simp [*, errW_none, errW_some] <;> rfl), by repeat (first | (with_reducible first | exact HB.out | apply below_alloc | apply pw_below_drewN | apply below_drew1 | refine below_set ?_ GE212.out | refine below_set ?_ GE218.out | refine below_set ?_ GE222.out) | exact HB.out)⟩
              · rw [if_neg c81] at H
                have c81b0 : (t213.toList == ([] : List UInt8)) = false := beq_eq_false_iff_ne.mpr c81
                have c81b1 : (t213.toList != ([] : List UInt8)) = true := bne_iff_ne.mpr c81
                replace H := Option.bind_eq_some_iff.mp H
                obtain ⟨⟨t228, t229, t230⟩, A840, H⟩ := H
                replace H : (if t230 = true then (some (t228 == t210 && (t229 == t211))) else (some false)) = some r := H
                have A84 := Aside0.mk A840
                clear A840
                by_cases c85 : t230 = true
                · subst c85
                  have H1 : (some (t228 == t210 && (t229 == t211))) = some r := by rw [if_pos rfl] at H; exact H
                  clear H
                  have H := H1
                  clear H1
                  obtain rfl := Option.some.inj H
                  go_wp2_with (first | ((with_reducible refine gate_callee (f := 10) rfl ?_); refine goesL_ (some 75) rfl rfl Tryd.func10 (by kernel_rfl) rfl #[.string t213] rfl (by (try simp only [List.map_toArray, List.map_cons, List.map_nil]); first | done | rfl | (simp only [List.length_drop, List.length_take]; rfl)) ?_; (with_reducible refine (impl_BrdRead.calls t213 t228 t229 true _ A84.out).mono ?_); rintro e w86 ⟨rfl, hb⟩; refine ⟨_, rfl, ?_⟩; have n0_ := Aside0.mk (blk_below (g := gb212) (o := .cells #[.int .i64 t210, .int .i64 t211] 25 (0, 0)) (by (with_reducible repeat (first | refine blk_drewN ?_ _ | refine blk_drew ?_ | refine blk_alloc ?_ _)); exact BK212.out) hb); have n1_ := Aside0.mk (blk_below (g := gb218) (o := .cells #[.int .i64 t215, .int .i64 t216] 25 (0, 0)) (by (with_reducible repeat (first | refine blk_drewN ?_ _ | refine blk_drew ?_ | refine blk_alloc ?_ _)); exact BK218.out) hb); have n2_ := Aside0.mk (blk_below (g := gb222) (o := .cells #[.int .i64 t219, .int .i64 t220] 25 (0, 0)) (by (with_reducible repeat (first | refine blk_drewN ?_ _ | refine blk_drew ?_ | refine blk_alloc ?_ _)); exact BK222.out) hb); have n3_ := Aside0.mk (below_step (by repeat (first | (with_reducible first | exact HB.out | apply below_alloc | apply pw_below_drewN | apply below_drew1 | refine below_set ?_ GE212.out | refine below_set ?_ GE218.out | refine below_set ?_ GE222.out) | exact HB.out)) hb); clear BK212; clear BK218; clear BK222; clear HB; have BK212 := n0_; have BK218 := n1_; have BK222 := n2_; have HB := n3_; clear n0_ n1_ n2_ n3_; (try clear hb); (try clear hb2); (try clear hk); (try clear hi)) | ((with_reducible refine gate_dst (N := 12) rfl ?_); (try (refine gate_guard (by rfl) ?_; dsimp only)); refine box_event ?hg (N := 12) ?hd (cs := #[.int .i64 0, .int .i64 0]) (t := 25) ?hr ?_; (case hd => rfl); (case hg => rfl); (case hr => first | (go_simp; done) | (go_simp; rfl)); intro gb231 hg w87 hbox hb; have n0_ := Aside0.mk (blk_below (g := gb212) (o := .cells #[.int .i64 t210, .int .i64 t211] 25 (0, 0)) (by (with_reducible repeat (first | refine blk_drewN ?_ _ | refine blk_drew ?_ | refine blk_alloc ?_ _)); exact BK212.out) hb); have n1_ := Aside0.mk (blk_below (g := gb218) (o := .cells #[.int .i64 t215, .int .i64 t216] 25 (0, 0)) (by (with_reducible repeat (first | refine blk_drewN ?_ _ | refine blk_drew ?_ | refine blk_alloc ?_ _)); exact BK218.out) hb); have n2_ := Aside0.mk (blk_below (g := gb222) (o := .cells #[.int .i64 t219, .int .i64 t220] 25 (0, 0)) (by (with_reducible repeat (first | refine blk_drewN ?_ _ | refine blk_drew ?_ | refine blk_alloc ?_ _)); exact BK222.out) hb); have n3_ := Aside0.mk (below_step (by repeat (first | (with_reducible first | exact HB.out | apply below_alloc | apply pw_below_drewN | apply below_drew1 | refine below_set ?_ GE212.out | refine below_set ?_ GE218.out | refine below_set ?_ GE222.out) | exact HB.out)) hb); have n4_ := Aside0.mk (hbox); have n5_ := Aside0.mk ((by rw [hg]; exact (below_size (by repeat (first | (with_reducible first | exact HB.out | apply below_alloc | apply pw_below_drewN | apply below_drew1 | refine below_set ?_ GE212.out | refine below_set ?_ GE218.out | refine below_set ?_ GE222.out) | exact HB.out))) : w.heap.size ≤ gb231)); have n6_ := Aside0.mk ((by rw [hg]; exact (below_size (by repeat (first | (with_reducible first | exact HB.out | apply below_alloc | apply pw_below_drewN | apply below_drew1 | refine below_set ?_ GE212.out | refine below_set ?_ GE218.out | refine below_set ?_ GE222.out) | exact HB.out))) : w.heap.size ≤ gb231)); have n7_ := Aside0.mk ((by rw [hg]; exact Nat.ne_of_lt (blk_lt (g := gb212) (o := .cells #[.int .i64 t210, .int .i64 t211] 25 (0, 0)) (by (with_reducible repeat (first | refine blk_drewN ?_ _ | refine blk_drew ?_ | refine blk_alloc ?_ _)); exact BK212.out)) : gb212 ≠ gb231)); have n8_ := Aside0.mk ((by rw [hg]; exact Nat.ne_of_gt (blk_lt (g := gb212) (o := .cells #[.int .i64 t210, .int .i64 t211] 25 (0, 0)) (by (with_reducible repeat (first | refine blk_drewN ?_ _ | refine blk_drew ?_ | refine blk_alloc ?_ _)); exact BK212.out)) : gb231 ≠ gb212)); have n9_ := Aside0.mk ((by rw [hg]; exact Nat.ne_of_lt (blk_lt (g := gb218) (o := .cells #[.int .i64 t215, .int .i64 t216] 25 (0, 0)) (by (with_reducible repeat (first | refine blk_drewN ?_ _ | refine blk_drew ?_ | refine blk_alloc ?_ _)); exact BK218.out)) : gb218 ≠ gb231)); have n10_ := Aside0.mk ((by rw [hg]; exact Nat.ne_of_gt (blk_lt (g := gb218) (o := .cells #[.int .i64 t215, .int .i64 t216] 25 (0, 0)) (by (with_reducible repeat (first | refine blk_drewN ?_ _ | refine blk_drew ?_ | refine blk_alloc ?_ _)); exact BK218.out)) : gb231 ≠ gb218)); have n11_ := Aside0.mk ((by rw [hg]; exact Nat.ne_of_lt (blk_lt (g := gb222) (o := .cells #[.int .i64 t219, .int .i64 t220] 25 (0, 0)) (by (with_reducible repeat (first | refine blk_drewN ?_ _ | refine blk_drew ?_ | refine blk_alloc ?_ _)); exact BK222.out)) : gb222 ≠ gb231)); have n12_ := Aside0.mk ((by rw [hg]; exact Nat.ne_of_gt (blk_lt (g := gb222) (o := .cells #[.int .i64 t219, .int .i64 t220] 25 (0, 0)) (by (with_reducible repeat (first | refine blk_drewN ?_ _ | refine blk_drew ?_ | refine blk_alloc ?_ _)); exact BK222.out)) : gb231 ≠ gb222)); clear BK212; clear BK218; clear BK222; clear HB; have BK212 := n0_; have BK218 := n1_; have BK222 := n2_; have HB := n3_; have BK231 := n4_; have GW231 := n5_; have GE231 := n6_; have NB212_231 := n7_; have NB231_212 := n8_; have NB218_231 := n9_; have NB231_218 := n10_; have NB222_231 := n11_; have NB231_222 := n12_; clear n0_ n1_ n2_ n3_ n4_ n5_ n6_ n7_ n8_ n9_ n10_ n11_ n12_; clear hb hbox hg; have hnb88 := NB231_212.out; have hnc88 := NB212_231.out; have hnb89 := NB231_218.out; have hnc89 := NB218_231.out; have hnb90 := NB231_222.out; have hnc90 := NB222_231.out; have hcz91_0 : w87.cell? ⟨gb231, 0, none⟩ = some (.int .i64 0) := (blk_cell BK231.out 0).trans rfl; have hcz91_1 : w87.cell? ⟨gb231, 1, none⟩ = some (.int .i64 0) := (blk_cell BK231.out 1).trans rfl; have hfz91_0 := blk_frozen BK231.out 0; have hfz91_1 := blk_frozen BK231.out 1; have hnb92 := NB212_218.out; have hnc92 := NB218_212.out; have hnb93 := NB212_222.out; have hnc93 := NB222_212.out; have hcz94_0 : w87.cell? ⟨gb212, 0, none⟩ = some (.int .i64 t210) := (blk_cell BK212.out 0).trans rfl; have hcz94_1 : w87.cell? ⟨gb212, 1, none⟩ = some (.int .i64 t211) := (blk_cell BK212.out 1).trans rfl; have hfz94_0 := blk_frozen BK212.out 0; have hfz94_1 := blk_frozen BK212.out 1))
                  go_ret
                  exact ⟨by first | rfl | (simp [errW_none, errW_some] <;> rfl) | (simp [*, errW_none, errW_some] <;> rfl), by repeat (first | (with_reducible first | exact HB.out | apply below_alloc | apply pw_below_drewN | apply below_drew1 | refine below_set ?_ GE212.out | refine below_set ?_ GE218.out | refine below_set ?_ GE222.out | refine below_set ?_ GE231.out) | exact HB.out)⟩
                · replace c85 := Bool.eq_false_iff.mpr c85
                  subst c85
                  have H1 : (some false) = some r := by rw [if_neg (show ¬ (false = true) by decide)] at H; exact H
                  clear H
                  have H := H1
                  clear H1
                  obtain rfl := Option.some.inj H
                  go_wp2_with (first | ((with_reducible refine gate_callee (f := 10) rfl ?_); refine goesL_ (some 75) rfl rfl Tryd.func10 (by kernel_rfl) rfl #[.string t213] rfl (by (try simp only [List.map_toArray, List.map_cons, List.map_nil]); first | done | rfl | (simp only [List.length_drop, List.length_take]; rfl)) ?_; (with_reducible refine (impl_BrdRead.calls t213 t228 t229 false _ A84.out).mono ?_); rintro e w95 ⟨rfl, hb⟩; refine ⟨_, rfl, ?_⟩; have n0_ := Aside0.mk (blk_below (g := gb212) (o := .cells #[.int .i64 t210, .int .i64 t211] 25 (0, 0)) (by (with_reducible repeat (first | refine blk_drewN ?_ _ | refine blk_drew ?_ | refine blk_alloc ?_ _)); exact BK212.out) hb); have n1_ := Aside0.mk (blk_below (g := gb218) (o := .cells #[.int .i64 t215, .int .i64 t216] 25 (0, 0)) (by (with_reducible repeat (first | refine blk_drewN ?_ _ | refine blk_drew ?_ | refine blk_alloc ?_ _)); exact BK218.out) hb); have n2_ := Aside0.mk (blk_below (g := gb222) (o := .cells #[.int .i64 t219, .int .i64 t220] 25 (0, 0)) (by (with_reducible repeat (first | refine blk_drewN ?_ _ | refine blk_drew ?_ | refine blk_alloc ?_ _)); exact BK222.out) hb); have n3_ := Aside0.mk (below_step (by repeat (first | (with_reducible first | exact HB.out | apply below_alloc | apply pw_below_drewN | apply below_drew1 | refine below_set ?_ GE212.out | refine below_set ?_ GE218.out | refine below_set ?_ GE222.out) | exact HB.out)) hb); clear BK212; clear BK218; clear BK222; clear HB; have BK212 := n0_; have BK218 := n1_; have BK222 := n2_; have HB := n3_; clear n0_ n1_ n2_ n3_; (try clear hb); (try clear hb2); (try clear hk); (try clear hi)) | ((with_reducible refine gate_dst (N := 12) rfl ?_); (try (refine gate_guard (by rfl) ?_; dsimp only)); refine box_event ?hg (N := 12) ?hd (cs := #[.int .i64 0, .int .i64 0]) (t := 25) ?hr ?_; (case hd => rfl); (case hg => rfl); (case hr => first | (go_simp; done) | (go_simp; rfl)); intro gb231 hg w96 hbox hb; have n0_ := Aside0.mk (blk_below (g := gb212) (o := .cells #[.int .i64 t210, .int .i64 t211] 25 (0, 0)) (by (with_reducible repeat (first | refine blk_drewN ?_ _ | refine blk_drew ?_ | refine blk_alloc ?_ _)); exact BK212.out) hb); have n1_ := Aside0.mk (blk_below (g := gb218) (o := .cells #[.int .i64 t215, .int .i64 t216] 25 (0, 0)) (by (with_reducible repeat (first | refine blk_drewN ?_ _ | refine blk_drew ?_ | refine blk_alloc ?_ _)); exact BK218.out) hb); have n2_ := Aside0.mk (blk_below (g := gb222) (o := .cells #[.int .i64 t219, .int .i64 t220] 25 (0, 0)) (by (with_reducible repeat (first | refine blk_drewN ?_ _ | refine blk_drew ?_ | refine blk_alloc ?_ _)); exact BK222.out) hb); have n3_ := Aside0.mk (below_step (by repeat (first | (with_reducible first | exact HB.out | apply below_alloc | apply pw_below_drewN | apply below_drew1 | refine below_set ?_ GE212.out | refine below_set ?_ GE218.out | refine below_set ?_ GE222.out) | exact HB.out)) hb); have n4_ := Aside0.mk (hbox); have n5_ := Aside0.mk ((by rw [hg]; exact (below_size (by repeat (first | (with_reducible first | exact HB.out | apply below_alloc | apply pw_below_drewN | apply below_drew1 | refine below_set ?_ GE212.out | refine below_set ?_ GE218.out | refine below_set ?_ GE222.out) | exact HB.out))) : w.heap.size ≤ gb231)); have n6_ := Aside0.mk ((by rw [hg]; exact (below_size (by repeat (first | (with_reducible first | exact HB.out | apply below_alloc | apply pw_below_drewN | apply below_drew1 | refine below_set ?_ GE212.out | refine below_set ?_ GE218.out | refine below_set ?_ GE222.out) | exact HB.out))) : w.heap.size ≤ gb231)); have n7_ := Aside0.mk ((by rw [hg]; exact Nat.ne_of_lt (blk_lt (g := gb212) (o := .cells #[.int .i64 t210, .int .i64 t211] 25 (0, 0)) (by (with_reducible repeat (first | refine blk_drewN ?_ _ | refine blk_drew ?_ | refine blk_alloc ?_ _)); exact BK212.out)) : gb212 ≠ gb231)); have n8_ := Aside0.mk ((by rw [hg]; exact Nat.ne_of_gt (blk_lt (g := gb212) (o := .cells #[.int .i64 t210, .int .i64 t211] 25 (0, 0)) (by (with_reducible repeat (first | refine blk_drewN ?_ _ | refine blk_drew ?_ | refine blk_alloc ?_ _)); exact BK212.out)) : gb231 ≠ gb212)); have n9_ := Aside0.mk ((by rw [hg]; exact Nat.ne_of_lt (blk_lt (g := gb218) (o := .cells #[.int .i64 t215, .int .i64 t216] 25 (0, 0)) (by (with_reducible repeat (first | refine blk_drewN ?_ _ | refine blk_drew ?_ | refine blk_alloc ?_ _)); exact BK218.out)) : gb218 ≠ gb231)); have n10_ := Aside0.mk ((by rw [hg]; exact Nat.ne_of_gt (blk_lt (g := gb218) (o := .cells #[.int .i64 t215, .int .i64 t216] 25 (0, 0)) (by (with_reducible repeat (first | refine blk_drewN ?_ _ | refine blk_drew ?_ | refine blk_alloc ?_ _)); exact BK218.out)) : gb231 ≠ gb218)); have n11_ := Aside0.mk ((by rw [hg]; exact Nat.ne_of_lt (blk_lt (g := gb222) (o := .cells #[.int .i64 t219, .int .i64 t220] 25 (0, 0)) (by (with_reducible repeat (first | refine blk_drewN ?_ _ | refine blk_drew ?_ | refine blk_alloc ?_ _)); exact BK222.out)) : gb222 ≠ gb231)); have n12_ := Aside0.mk ((by rw [hg]; exact Nat.ne_of_gt (blk_lt (g := gb222) (o := .cells #[.int .i64 t219, .int .i64 t220] 25 (0, 0)) (by (with_reducible repeat (first | refine blk_drewN ?_ _ | refine blk_drew ?_ | refine blk_alloc ?_ _)); exact BK222.out)) : gb231 ≠ gb222)); clear BK212; clear BK218; clear BK222; clear HB; have BK212 := n0_; have BK218 := n1_; have BK222 := n2_; have HB := n3_; have BK231 := n4_; have GW231 := n5_; have GE231 := n6_; have NB212_231 := n7_; have NB231_212 := n8_; have NB218_231 := n9_; have NB231_218 := n10_; have NB222_231 := n11_; have NB231_222 := n12_; clear n0_ n1_ n2_ n3_ n4_ n5_ n6_ n7_ n8_ n9_ n10_ n11_ n12_; clear hb hbox hg; have hnb97 := NB231_212.out; have hnc97 := NB212_231.out; have hnb98 := NB231_218.out; have hnc98 := NB218_231.out; have hnb99 := NB231_222.out; have hnc99 := NB222_231.out; have hcz100_0 : w96.cell? ⟨gb231, 0, none⟩ = some (.int .i64 0) := (blk_cell BK231.out 0).trans rfl; have hcz100_1 : w96.cell? ⟨gb231, 1, none⟩ = some (.int .i64 0) := (blk_cell BK231.out 1).trans rfl; have hfz100_0 := blk_frozen BK231.out 0; have hfz100_1 := blk_frozen BK231.out 1))
                  go_ret
                  exact ⟨by first | rfl | (simp [errW_none, errW_some] <;> rfl) | (simp [*, errW_none, errW_some] <;> rfl), by repeat (first | (with_reducible first | exact HB.out | apply below_alloc | apply pw_below_drewN | apply below_drew1 | refine below_set ?_ GE212.out | refine below_set ?_ GE218.out | refine below_set ?_ GE222.out | refine below_set ?_ GE231.out) | exact HB.out)⟩
def laws_FnBrdText.Pure : Prop := ∀ (l0 : List Int) (l1 : List Int), l0.length ≤ maxLen → l0.length * 1 ≤ 140737488351232 → (∀ x ∈ l0, (Lit.int .u8 x).wf = true) → l1.length ≤ maxLen → l1.length * 1 ≤ 140737488351232 → (∀ x ∈ l1, (Lit.int .u8 x).wf = true) → ∃ k, laws_FnBrdText.f k l0 l1 = some true
end Go.Proofs.YtfofmdillhamkaaDoor.Pr
