/- A part of what the claim of 'FnCellOk' leans on. -/
import Derived.Test.YtldmepofbkcmnaaDoorFnCellOkPr0
import Derived.Test.YtldmepofbkcmnaaDoorFnCellOkPr25
import Derived.Test.YtldmepofbkcmnaaDoorFnCellOkPr28
import Derived.Test.YtldmepofbkcmnaaDoorFnCellOkPr29
import Derived.Test.YtldmepofbkcmnaaDoorFnCellOkPr30
import Derived.Test.YtldmepofbkcmnaaDoorFnCellOkPr31
namespace Go.Proofs.YtldmepofbkcmnaaDoor.Pr
open Go.RowKit Go.Proofs.YtldmepofbkcmnaaDoorW.PrintWords Go.Proofs.YtldmepofbkcmnaaDoorW.PrintLast Go.Proofs.YtldmepofbkcmnaaDoorW.PrintMore
attribute [local go_sem] max2_int min2_int max_two min_two max_three min_three max_four min_four
set_option linter.unusedVariables false
set_option linter.unusedSimpArgs false
mutual
def laws_FnCellOk.j0 : Nat → Bool → ByteArray → Int → Int → Int → Int → Int → Int → Int → Int → Int → Int → Option (Bool)
  | 0, _, _, _, _, _, _, _, _, _, _, _, _ => none
  | k + 1, x4, x485000, x485001, x485002, x485003, x485004, x485005, x485006, x485007, x485008, x485009, x485010 => if x4 = true then ((impl_BrdOk.f x485003 x485004).bind fun t486 => (if t486 = true then ((impl_BrdOk.f x485005 x485006).bind fun t487 => (if t487 = true then ((impl_BrdOk.f x485007 x485008).bind fun t488 => (if t488 = true then ((impl_BrdOk.f x485009 x485010).bind fun t489 => (laws_FnCellOk.j1 k t489 x485000 x485001 x485002 x485003 x485004 x485005 x485006 x485007 x485008 x485009 x485010)) else (laws_FnCellOk.j1 k false x485000 x485001 x485002 x485003 x485004 x485005 x485006 x485007 x485008 x485009 x485010))) else (laws_FnCellOk.j1 k false x485000 x485001 x485002 x485003 x485004 x485005 x485006 x485007 x485008 x485009 x485010))) else (laws_FnCellOk.j1 k false x485000 x485001 x485002 x485003 x485004 x485005 x485006 x485007 x485008 x485009 x485010))) else (laws_FnCellOk.j1 k false x485000 x485001 x485002 x485003 x485004 x485005 x485006 x485007 x485008 x485009 x485010)
def laws_FnCellOk.j1 : Nat → Bool → ByteArray → Int → Int → Int → Int → Int → Int → Int → Int → Int → Int → Option (Bool)
  | 0, _, _, _, _, _, _, _, _, _, _, _, _ => none
  | k + 1, x4, x485000, x485001, x485002, x485003, x485004, x485005, x485006, x485007, x485008, x485009, x485010 => (impl_CellOk.f k x485000 x485001 x485002 x485003 x485004 x485005 x485006 x485007 x485008 x485009 x485010).bind fun t490 => (if (t490 == x4) = true then ((impl_CellOk.f k x485000 x485001 x485002 x485003 x485004 x485005 x485006 x485007 x485008 x485009 x485010).bind fun t491 => ((spec_CellOk.f k x485000 x485001 x485002 x485003 x485004 x485005 x485006 x485007 x485008 x485009 x485010).bind fun t492 => (if (t491 == t492) = true then ((impl_CellOk.f k (⟨#[]⟩ : ByteArray) 1 1 0 0 0 0 0 0 0 0).bind fun t493 => (some t493)) else (some false)))) else (some false))
end
def laws_FnCellOk.f (k : Nat) (l0 : List Int) : Option (Bool) := if (l0.length : Int) > 1048576 then (some true) else ((spec_DrawCellOk.f k l0).bind fun bt473 => ((impl_TxtOk.f k bt473.1).bind fun t485 => (if t485 = true then (if bt473.2.1 ≥ 1 then (if bt473.2.1 ≤ 4 then (if bt473.2.2.1 ≥ 1 then (laws_FnCellOk.j0 k (decide (bt473.2.2.1 ≤ 4)) bt473.1 bt473.2.1 bt473.2.2.1 bt473.2.2.2.1 bt473.2.2.2.2.1 bt473.2.2.2.2.2.1 bt473.2.2.2.2.2.2.1 bt473.2.2.2.2.2.2.2.1 bt473.2.2.2.2.2.2.2.2.1 bt473.2.2.2.2.2.2.2.2.2.1 bt473.2.2.2.2.2.2.2.2.2.2) else (laws_FnCellOk.j0 k false bt473.1 bt473.2.1 bt473.2.2.1 bt473.2.2.2.1 bt473.2.2.2.2.1 bt473.2.2.2.2.2.1 bt473.2.2.2.2.2.2.1 bt473.2.2.2.2.2.2.2.1 bt473.2.2.2.2.2.2.2.2.1 bt473.2.2.2.2.2.2.2.2.2.1 bt473.2.2.2.2.2.2.2.2.2.2)) else (laws_FnCellOk.j0 k false bt473.1 bt473.2.1 bt473.2.2.1 bt473.2.2.2.1 bt473.2.2.2.2.1 bt473.2.2.2.2.2.1 bt473.2.2.2.2.2.2.1 bt473.2.2.2.2.2.2.2.1 bt473.2.2.2.2.2.2.2.2.1 bt473.2.2.2.2.2.2.2.2.2.1 bt473.2.2.2.2.2.2.2.2.2.2)) else (laws_FnCellOk.j0 k false bt473.1 bt473.2.1 bt473.2.2.1 bt473.2.2.2.1 bt473.2.2.2.2.1 bt473.2.2.2.2.2.1 bt473.2.2.2.2.2.2.1 bt473.2.2.2.2.2.2.2.1 bt473.2.2.2.2.2.2.2.2.1 bt473.2.2.2.2.2.2.2.2.2.1 bt473.2.2.2.2.2.2.2.2.2.2)) else (laws_FnCellOk.j0 k false bt473.1 bt473.2.1 bt473.2.2.1 bt473.2.2.2.1 bt473.2.2.2.2.1 bt473.2.2.2.2.2.1 bt473.2.2.2.2.2.2.1 bt473.2.2.2.2.2.2.2.1 bt473.2.2.2.2.2.2.2.2.1 bt473.2.2.2.2.2.2.2.2.2.1 bt473.2.2.2.2.2.2.2.2.2.2))))
theorem laws_FnCellOk.mono_l : ∀ k, (∀ y0 y1 y2 y3 y4 y5 y6 y7 y8 y9 y10 y11, LeO (laws_FnCellOk.j0 k y0 y1 y2 y3 y4 y5 y6 y7 y8 y9 y10 y11) (laws_FnCellOk.j0 (k + 1) y0 y1 y2 y3 y4 y5 y6 y7 y8 y9 y10 y11)) ∧ (∀ y0 y1 y2 y3 y4 y5 y6 y7 y8 y9 y10 y11, LeO (laws_FnCellOk.j1 k y0 y1 y2 y3 y4 y5 y6 y7 y8 y9 y10 y11) (laws_FnCellOk.j1 (k + 1) y0 y1 y2 y3 y4 y5 y6 y7 y8 y9 y10 y11))
  | 0 => ⟨fun _ _ _ _ _ _ _ _ _ _ _ _ r h => by simp [laws_FnCellOk.j0] at h, fun _ _ _ _ _ _ _ _ _ _ _ _ r h => by simp [laws_FnCellOk.j1] at h⟩
  | k + 1 => by
    obtain ⟨ih0, ih1⟩ := laws_FnCellOk.mono_l k
    refine ⟨?_, ?_⟩
    · intro y0 y1 y2 y3 y4 y5 y6 y7 y8 y9 y10 y11
      unfold laws_FnCellOk.j0
      repeat' first
      | (with_reducible exact ih0 _ _ _ _ _ _ _ _ _ _ _ _)
      | (with_reducible exact ih1 _ _ _ _ _ _ _ _ _ _ _ _)
      | (with_reducible exact impl_CellOk.mono _ _ _ _ _ _ _ _ _ _ _ _)
      | (with_reducible exact impl_TxtOk.mono _ _)
      | (with_reducible exact spec_CellOk.mono _ _ _ _ _ _ _ _ _ _ _ _)
      | (with_reducible exact spec_DrawCellOk.mono _ _)
      | (with_reducible exact LeO.refl _)
      | (with_reducible exact LeO.none _)
      | (with_reducible refine LeO.ite ?_ ?_)
      | (with_reducible refine LeO.bind ?_ (fun _ => ?_))
      | exact ih0 _ _ _ _ _ _ _ _ _ _ _ _
      | exact ih1 _ _ _ _ _ _ _ _ _ _ _ _
      | exact impl_CellOk.mono _ _ _ _ _ _ _ _ _ _ _ _
      | exact impl_TxtOk.mono _ _
      | exact spec_CellOk.mono _ _ _ _ _ _ _ _ _ _ _ _
      | exact spec_DrawCellOk.mono _ _
      | exact LeO.none _
      | refine LeO.ite ?_ ?_
      | refine LeO.bind ?_ (fun _ => ?_)
    · intro y0 y1 y2 y3 y4 y5 y6 y7 y8 y9 y10 y11
      unfold laws_FnCellOk.j1
      repeat' first
      | (with_reducible exact ih0 _ _ _ _ _ _ _ _ _ _ _ _)
      | (with_reducible exact ih1 _ _ _ _ _ _ _ _ _ _ _ _)
      | (with_reducible exact impl_CellOk.mono _ _ _ _ _ _ _ _ _ _ _ _)
      | (with_reducible exact impl_TxtOk.mono _ _)
      | (with_reducible exact spec_CellOk.mono _ _ _ _ _ _ _ _ _ _ _ _)
      | (with_reducible exact spec_DrawCellOk.mono _ _)
      | (with_reducible exact LeO.refl _)
      | (with_reducible exact LeO.none _)
      | (with_reducible refine LeO.ite ?_ ?_)
      | (with_reducible refine LeO.bind ?_ (fun _ => ?_))
      | exact ih0 _ _ _ _ _ _ _ _ _ _ _ _
      | exact ih1 _ _ _ _ _ _ _ _ _ _ _ _
      | exact impl_CellOk.mono _ _ _ _ _ _ _ _ _ _ _ _
      | exact impl_TxtOk.mono _ _
      | exact spec_CellOk.mono _ _ _ _ _ _ _ _ _ _ _ _
      | exact spec_DrawCellOk.mono _ _
      | exact LeO.none _
      | refine LeO.ite ?_ ?_
      | refine LeO.bind ?_ (fun _ => ?_)
theorem laws_FnCellOk.mono : ∀ a0 k, LeO (laws_FnCellOk.f k a0) (laws_FnCellOk.f (k + 1) a0) := by
  intro a0 k
  obtain ⟨ih0, ih1⟩ := laws_FnCellOk.mono_l k
  unfold laws_FnCellOk.f
  repeat' first
      | (with_reducible exact ih0 _ _ _ _ _ _ _ _ _ _ _ _)
      | (with_reducible exact ih1 _ _ _ _ _ _ _ _ _ _ _ _)
      | (with_reducible exact impl_CellOk.mono _ _ _ _ _ _ _ _ _ _ _ _)
      | (with_reducible exact impl_TxtOk.mono _ _)
      | (with_reducible exact spec_CellOk.mono _ _ _ _ _ _ _ _ _ _ _ _)
      | (with_reducible exact spec_DrawCellOk.mono _ _)
      | (with_reducible exact LeO.refl _)
      | (with_reducible exact LeO.none _)
      | (with_reducible refine LeO.ite ?_ ?_)
      | (with_reducible refine LeO.bind ?_ (fun _ => ?_))
      | exact ih0 _ _ _ _ _ _ _ _ _ _ _ _
      | exact ih1 _ _ _ _ _ _ _ _ _ _ _ _
      | exact impl_CellOk.mono _ _ _ _ _ _ _ _ _ _ _ _
      | exact impl_TxtOk.mono _ _
      | exact spec_CellOk.mono _ _ _ _ _ _ _ _ _ _ _ _
      | exact spec_DrawCellOk.mono _ _
      | exact LeO.none _
      | refine LeO.ite ?_ ?_
      | refine LeO.bind ?_ (fun _ => ?_)
def laws_FnCellOk.T6 : Bool × List (List Nat × List Nat) := (true, [([], []), ([0], [0]), ([], []), ([1, 2], [1, 2]), ([3, 1], [3]), ([4], [4]), ([5, 4, 4], [4, 5]), ([4], [4]), ([7, 6, 4], [4, 7]), ([6, 8, 4], [4, 6, 8]), ([4, 9], [4, 9]), ([10, 8], [10]), ([11], [11]), ([12, 11, 11], [11, 12]), ([11, 13], [11, 13]), ([14, 13, 0, 1, 2, 3, 4, 5, 6, 7, 8, 9, 10, 11, 12, 13, 14], [14])])
def laws_FnCellOk.B6 : List Nat := [0, 1, 0, 7, 15, 31, 63, 31, 255, 511, 1023, 2047, 4095, 8191, 16383, 32767]
theorem laws_FnCellOk.tab6 : rtab .any (opsOf Tryd.f9 6) = laws_FnCellOk.T6 := by kernel_rfl
theorem laws_FnCellOk.bits6 : waitsOk laws_FnCellOk.T6.2 laws_FnCellOk.B6 = true := by kernel_rfl
set_option maxHeartbeats 8000000 in
set_option maxRecDepth 100000 in
theorem laws_FnCellOk.calls (k : Nat) (A0 : Option Addr) (c0 : Nat) (l0 : List Int) (r : Bool) (w : World) (hr0 : Kd.C (Kd.int .u8) w A0 l0.length l0) (hc0 : l0.length ≤ c0) (h : laws_FnCellOk.f k l0 = some r) :
    Calls Tryd.prog 9 #[.slice A0 l0.length c0] w fun e w' => e = .returned (.bool r) ∧ Below w.heap.size w w' := by
  have hu38 := Tryd.underlying38
  have hu36 := Tryd.underlying36
  have HR0 := Aside0.mk hr0
  have HC0 := Aside0.mk hc0
  clear hr0 hc0
  have HB := Aside0.mk (Below.refl w.heap.size w)
  have H : (if (l0.length : Int) > 1048576 then (some true) else ((spec_DrawCellOk.f k l0).bind fun bt473 => ((impl_TxtOk.f k bt473.1).bind fun t485 => (if t485 = true then (if bt473.2.1 ≥ 1 then (if bt473.2.1 ≤ 4 then (if bt473.2.2.1 ≥ 1 then (laws_FnCellOk.j0 k (decide (bt473.2.2.1 ≤ 4)) bt473.1 bt473.2.1 bt473.2.2.1 bt473.2.2.2.1 bt473.2.2.2.2.1 bt473.2.2.2.2.2.1 bt473.2.2.2.2.2.2.1 bt473.2.2.2.2.2.2.2.1 bt473.2.2.2.2.2.2.2.2.1 bt473.2.2.2.2.2.2.2.2.2.1 bt473.2.2.2.2.2.2.2.2.2.2) else (laws_FnCellOk.j0 k false bt473.1 bt473.2.1 bt473.2.2.1 bt473.2.2.2.1 bt473.2.2.2.2.1 bt473.2.2.2.2.2.1 bt473.2.2.2.2.2.2.1 bt473.2.2.2.2.2.2.2.1 bt473.2.2.2.2.2.2.2.2.1 bt473.2.2.2.2.2.2.2.2.2.1 bt473.2.2.2.2.2.2.2.2.2.2)) else (laws_FnCellOk.j0 k false bt473.1 bt473.2.1 bt473.2.2.1 bt473.2.2.2.1 bt473.2.2.2.2.1 bt473.2.2.2.2.2.1 bt473.2.2.2.2.2.2.1 bt473.2.2.2.2.2.2.2.1 bt473.2.2.2.2.2.2.2.2.1 bt473.2.2.2.2.2.2.2.2.2.1 bt473.2.2.2.2.2.2.2.2.2.2)) else (laws_FnCellOk.j0 k false bt473.1 bt473.2.1 bt473.2.2.1 bt473.2.2.2.1 bt473.2.2.2.2.1 bt473.2.2.2.2.2.1 bt473.2.2.2.2.2.2.1 bt473.2.2.2.2.2.2.2.1 bt473.2.2.2.2.2.2.2.2.1 bt473.2.2.2.2.2.2.2.2.2.1 bt473.2.2.2.2.2.2.2.2.2.2)) else (laws_FnCellOk.j0 k false bt473.1 bt473.2.1 bt473.2.2.1 bt473.2.2.2.1 bt473.2.2.2.2.1 bt473.2.2.2.2.2.1 bt473.2.2.2.2.2.2.1 bt473.2.2.2.2.2.2.2.1 bt473.2.2.2.2.2.2.2.2.1 bt473.2.2.2.2.2.2.2.2.2.1 bt473.2.2.2.2.2.2.2.2.2.2))))) = some r := h
  clear h
  by_cases c2 : (l0.length : Int) > 1048576
  · rw [if_pos c2] at H
    have c2b0 : decide (1048576 < (l0.length : Int)) = true := decide_eq_true c2
    have c2b1 : decide (1048576 < l0.length) = true := decide_eq_true (by omega)
    clear c2
    obtain rfl := Option.some.inj H
    go_enter Tryd.func9, Tryd.ntmps9
    go_wp2
    go_ret
    exact ⟨by first | rfl | (simp [errW_none, errW_some] <;> rfl) | (simp [*, errW_none, errW_some] <;> rfl), by repeat (first | (with_reducible first | exact HB.out | apply below_alloc | apply pw_below_drewN | apply below_drew1) | exact HB.out)⟩
  · rw [if_neg c2] at H
    have c2b0 : decide (1048576 < (l0.length : Int)) = false := decide_eq_false c2
    have c2b1 : decide (1048576 < l0.length) = false := decide_eq_false (by omega)
    clear c2
    replace H := Option.bind_eq_some_iff.mp H
    obtain ⟨⟨t473, t474, t475, t476, t477, t478, t479, t480, t481, t482, t483⟩, A30, H⟩ := H
    replace H : ((impl_TxtOk.f k t473).bind fun t485 => (if t485 = true then (if t474 ≥ 1 then (if t474 ≤ 4 then (if t475 ≥ 1 then (laws_FnCellOk.j0 k (decide (t475 ≤ 4)) t473 t474 t475 t476 t477 t478 t479 t480 t481 t482 t483) else (laws_FnCellOk.j0 k false t473 t474 t475 t476 t477 t478 t479 t480 t481 t482 t483)) else (laws_FnCellOk.j0 k false t473 t474 t475 t476 t477 t478 t479 t480 t481 t482 t483)) else (laws_FnCellOk.j0 k false t473 t474 t475 t476 t477 t478 t479 t480 t481 t482 t483)) else (laws_FnCellOk.j0 k false t473 t474 t475 t476 t477 t478 t479 t480 t481 t482 t483))) = some r := H
    have A3 := Aside0.mk A30
    clear A30
    have HC4 := Aside0.mk H
    clear H
    go_enter Tryd.func9, Tryd.ntmps9
    go_upto_region 4 with (first | ((with_reducible refine gate_callee (f := 28) rfl ?_); refine goesL_ (some 9) rfl rfl Tryd.func28 (by kernel_rfl) rfl #[.slice A0 l0.length c0] rfl (by (try simp only [List.map_toArray, List.map_cons, List.map_nil]); first | done | rfl | (simp only [List.length_drop, List.length_take]; rfl)) ?_; (with_reducible refine (spec_DrawCellOk.calls k _ _ l0 t473 t474 t475 t476 t477 t478 t479 t480 t481 t482 t483 _ ?side1 ?side2 A3.out).mono ?_); (case side1 => repeat (first | exact HR0.out | (with_reducible refine Kd.C_alloc ?_ _) | (with_reducible refine Kd.C_drewN ?_ _) | (with_reducible refine Kd.C_drew ?_))); (case side2 => exact HC0.out); rintro e w5 ⟨rfl, hb⟩; refine ⟨_, rfl, ?_⟩; have n0_ := Aside0.mk (below_step (by repeat (first | (with_reducible first | exact HB.out | apply below_alloc | apply pw_below_drewN | apply below_drew1) | exact HB.out)) hb); clear HB; have HB := n0_; clear n0_; (try clear hb); (try clear hb2); (try clear hk); (try clear hi)) | ((with_reducible refine gate_dst (N := 3) rfl ?_); refine box_event ?hg (N := 3) ?hd (cs := #[.string (⟨#[]⟩ : ByteArray), .int .i64 0, .int .i64 0, .int .i64 0, .int .i64 0, .int .i64 0, .int .i64 0, .int .i64 0, .int .i64 0, .int .i64 0, .int .i64 0]) (t := 38) ?hr ?_; (case hd => rfl); (case hg => rfl); (case hr => first | (go_simp; done) | (go_simp; rfl)); intro gb484 hg w6 hbox hb; have n0_ := Aside0.mk (below_step (by repeat (first | (with_reducible first | exact HB.out | apply below_alloc | apply pw_below_drewN | apply below_drew1) | exact HB.out)) hb); have n1_ := Aside0.mk (hbox); have n2_ := Aside0.mk ((by rw [hg]; exact (below_size (by repeat (first | (with_reducible first | exact HB.out | apply below_alloc | apply pw_below_drewN | apply below_drew1) | exact HB.out))) : w.heap.size ≤ gb484)); have n3_ := Aside0.mk ((by rw [hg]; exact (below_size (by repeat (first | (with_reducible first | exact HB.out | apply below_alloc | apply pw_below_drewN | apply below_drew1) | exact HB.out))) : w.heap.size ≤ gb484)); clear HB; have HB := n0_; have BK484 := n1_; have GW484 := n2_; have GE484 := n3_; clear n0_ n1_ n2_ n3_; clear hb hbox hg; have hcz7_0 : w6.cell? ⟨gb484, 0, none⟩ = some (.string (⟨#[]⟩ : ByteArray)) := (blk_cell BK484.out 0).trans rfl; have hcz7_1 : w6.cell? ⟨gb484, 1, none⟩ = some (.int .i64 0) := (blk_cell BK484.out 1).trans rfl; have hcz7_2 : w6.cell? ⟨gb484, 2, none⟩ = some (.int .i64 0) := (blk_cell BK484.out 2).trans rfl; have hcz7_3 : w6.cell? ⟨gb484, 3, none⟩ = some (.int .i64 0) := (blk_cell BK484.out 3).trans rfl; have hcz7_4 : w6.cell? ⟨gb484, 4, none⟩ = some (.int .i64 0) := (blk_cell BK484.out 4).trans rfl; have hcz7_5 : w6.cell? ⟨gb484, 5, none⟩ = some (.int .i64 0) := (blk_cell BK484.out 5).trans rfl; have hcz7_6 : w6.cell? ⟨gb484, 6, none⟩ = some (.int .i64 0) := (blk_cell BK484.out 6).trans rfl; have hcz7_7 : w6.cell? ⟨gb484, 7, none⟩ = some (.int .i64 0) := (blk_cell BK484.out 7).trans rfl; have hcz7_8 : w6.cell? ⟨gb484, 8, none⟩ = some (.int .i64 0) := (blk_cell BK484.out 8).trans rfl; have hcz7_9 : w6.cell? ⟨gb484, 9, none⟩ = some (.int .i64 0) := (blk_cell BK484.out 9).trans rfl; have hcz7_10 : w6.cell? ⟨gb484, 10, none⟩ = some (.int .i64 0) := (blk_cell BK484.out 10).trans rfl; have hfz7_0 := blk_frozen BK484.out 0; have hfz7_1 := blk_frozen BK484.out 1; have hfz7_2 := blk_frozen BK484.out 2; have hfz7_3 := blk_frozen BK484.out 3; have hfz7_4 := blk_frozen BK484.out 4; have hfz7_5 := blk_frozen BK484.out 5; have hfz7_6 := blk_frozen BK484.out 6; have hfz7_7 := blk_frozen BK484.out 7; have hfz7_8 := blk_frozen BK484.out 8; have hfz7_9 := blk_frozen BK484.out 9; have hfz7_10 := blk_frozen BK484.out 10))
    (try simp only [Act.put, List.setIfInBounds_toArray, List.set_cons_zero, List.set_cons_succ])
    go_cut [4] (fun v4 wc => ∃ (kq : Nat) (x4_3 : Bool), v4 = .bool x4_3 ∧ Aside0 (laws_FnCellOk.j0 kq x4_3 t473 t474 t475 t476 t477 t478 t479 t480 t481 t482 t483 = some r) ∧ Aside0 (kq ≤ k) ∧ Aside0 (wc.heap[gb484]? = some (.cells #[.string t473, .int .i64 t474, .int .i64 t475, .int .i64 t476, .int .i64 t477, .int .i64 t478, .int .i64 t479, .int .i64 t480, .int .i64 t481, .int .i64 t482, .int .i64 t483] 38 (0, 0))) ∧ Aside0 (Below w.heap.size w wc))
    case first =>
      have H := HC4.out
      clear HC4
      replace H := Option.bind_eq_some_iff.mp H
      obtain ⟨t485, A80, H⟩ := H
      replace H : (if t485 = true then (if t474 ≥ 1 then (if t474 ≤ 4 then (if t475 ≥ 1 then (laws_FnCellOk.j0 k (decide (t475 ≤ 4)) t473 t474 t475 t476 t477 t478 t479 t480 t481 t482 t483) else (laws_FnCellOk.j0 k false t473 t474 t475 t476 t477 t478 t479 t480 t481 t482 t483)) else (laws_FnCellOk.j0 k false t473 t474 t475 t476 t477 t478 t479 t480 t481 t482 t483)) else (laws_FnCellOk.j0 k false t473 t474 t475 t476 t477 t478 t479 t480 t481 t482 t483)) else (laws_FnCellOk.j0 k false t473 t474 t475 t476 t477 t478 t479 t480 t481 t482 t483)) = some r := H
      have A8 := Aside0.mk A80
      clear A80
      by_cases c9 : t485 = true
      · subst c9
        have H1 : (if t474 ≥ 1 then (if t474 ≤ 4 then (if t475 ≥ 1 then (laws_FnCellOk.j0 k (decide (t475 ≤ 4)) t473 t474 t475 t476 t477 t478 t479 t480 t481 t482 t483) else (laws_FnCellOk.j0 k false t473 t474 t475 t476 t477 t478 t479 t480 t481 t482 t483)) else (laws_FnCellOk.j0 k false t473 t474 t475 t476 t477 t478 t479 t480 t481 t482 t483)) else (laws_FnCellOk.j0 k false t473 t474 t475 t476 t477 t478 t479 t480 t481 t482 t483)) = some r := by rw [if_pos rfl] at H; exact H
        clear H
        have H := H1
        clear H1
        by_cases c10 : t474 ≥ 1
        · rw [if_pos c10] at H
          have c10b0 : decide (1 ≤ t474) = true := decide_eq_true c10
          clear c10
          (first | rw [c10b0] | (simp only [i64_w, i32_w]; rw [c10b0]) | skip)
          by_cases c11 : t474 ≤ 4
          · rw [if_pos c11] at H
            have c11b0 : decide (t474 ≤ 4) = true := decide_eq_true c11
            clear c11
            by_cases c12 : t475 ≥ 1
            · rw [if_pos c12] at H
              have c12b0 : decide (1 ≤ t475) = true := decide_eq_true c12
              clear c12
              have H' := Aside0.mk H
              clear H
              have hcz13_0 : w6.cell? ⟨gb484, 0, none⟩ = some (.string (⟨#[]⟩ : ByteArray)) := (blk_cell BK484.out 0).trans rfl
              have hcz13_1 : w6.cell? ⟨gb484, 1, none⟩ = some (.int .i64 0) := (blk_cell BK484.out 1).trans rfl
              have hcz13_2 : w6.cell? ⟨gb484, 2, none⟩ = some (.int .i64 0) := (blk_cell BK484.out 2).trans rfl
              have hcz13_3 : w6.cell? ⟨gb484, 3, none⟩ = some (.int .i64 0) := (blk_cell BK484.out 3).trans rfl
              have hcz13_4 : w6.cell? ⟨gb484, 4, none⟩ = some (.int .i64 0) := (blk_cell BK484.out 4).trans rfl
              have hcz13_5 : w6.cell? ⟨gb484, 5, none⟩ = some (.int .i64 0) := (blk_cell BK484.out 5).trans rfl
              have hcz13_6 : w6.cell? ⟨gb484, 6, none⟩ = some (.int .i64 0) := (blk_cell BK484.out 6).trans rfl
              have hcz13_7 : w6.cell? ⟨gb484, 7, none⟩ = some (.int .i64 0) := (blk_cell BK484.out 7).trans rfl
              have hcz13_8 : w6.cell? ⟨gb484, 8, none⟩ = some (.int .i64 0) := (blk_cell BK484.out 8).trans rfl
              have hcz13_9 : w6.cell? ⟨gb484, 9, none⟩ = some (.int .i64 0) := (blk_cell BK484.out 9).trans rfl
              have hcz13_10 : w6.cell? ⟨gb484, 10, none⟩ = some (.int .i64 0) := (blk_cell BK484.out 10).trans rfl
              have hfz13_0 := blk_frozen BK484.out 0
              have hfz13_1 := blk_frozen BK484.out 1
              have hfz13_2 := blk_frozen BK484.out 2
              have hfz13_3 := blk_frozen BK484.out 3
              have hfz13_4 := blk_frozen BK484.out 4
              have hfz13_5 := blk_frozen BK484.out 5
              have hfz13_6 := blk_frozen BK484.out 6
              have hfz13_7 := blk_frozen BK484.out 7
              have hfz13_8 := blk_frozen BK484.out 8
              have hfz13_9 := blk_frozen BK484.out 9
              have hfz13_10 := blk_frozen BK484.out 10
              go_wp2_with (first | ((with_reducible refine gate_callee (f := 25) rfl ?_); refine goesL_ (some 12) rfl rfl Tryd.func25 (by kernel_rfl) rfl #[.string t473] rfl (by (try simp only [List.map_toArray, List.map_cons, List.map_nil]); first | done | rfl | (simp only [List.length_drop, List.length_take]; rfl)) ?_; (with_reducible refine (impl_TxtOk.calls k t473 true _ A8.out).mono ?_); rintro e w14 ⟨rfl, hb⟩; refine ⟨_, rfl, ?_⟩; have n0_ := Aside0.mk (blk_below (g := gb484) (o := .cells #[.string t473, .int .i64 t474, .int .i64 t475, .int .i64 t476, .int .i64 t477, .int .i64 t478, .int .i64 t479, .int .i64 t480, .int .i64 t481, .int .i64 t482, .int .i64 t483] 38 (0, 0)) (by (with_reducible repeat (first | refine blk_drewN ?_ _ | refine blk_drew ?_ | refine blk_alloc ?_ _)); refine blk_put (cs := #[.string t473, .int .i64 t474, .int .i64 t475, .int .i64 t476, .int .i64 t477, .int .i64 t478, .int .i64 t479, .int .i64 t480, .int .i64 t481, .int .i64 t482, .int .i64 0]) ?_ 10 _ rfl; (with_reducible repeat (first | refine blk_drewN ?_ _ | refine blk_drew ?_ | refine blk_alloc ?_ _)); refine blk_put (cs := #[.string t473, .int .i64 t474, .int .i64 t475, .int .i64 t476, .int .i64 t477, .int .i64 t478, .int .i64 t479, .int .i64 t480, .int .i64 t481, .int .i64 0, .int .i64 0]) ?_ 9 _ rfl; (with_reducible repeat (first | refine blk_drewN ?_ _ | refine blk_drew ?_ | refine blk_alloc ?_ _)); refine blk_put (cs := #[.string t473, .int .i64 t474, .int .i64 t475, .int .i64 t476, .int .i64 t477, .int .i64 t478, .int .i64 t479, .int .i64 t480, .int .i64 0, .int .i64 0, .int .i64 0]) ?_ 8 _ rfl; (with_reducible repeat (first | refine blk_drewN ?_ _ | refine blk_drew ?_ | refine blk_alloc ?_ _)); refine blk_put (cs := #[.string t473, .int .i64 t474, .int .i64 t475, .int .i64 t476, .int .i64 t477, .int .i64 t478, .int .i64 t479, .int .i64 0, .int .i64 0, .int .i64 0, .int .i64 0]) ?_ 7 _ rfl; (with_reducible repeat (first | refine blk_drewN ?_ _ | refine blk_drew ?_ | refine blk_alloc ?_ _)); refine blk_put (cs := #[.string t473, .int .i64 t474, .int .i64 t475, .int .i64 t476, .int .i64 t477, .int .i64 t478, .int .i64 0, .int .i64 0, .int .i64 0, .int .i64 0, .int .i64 0]) ?_ 6 _ rfl; (with_reducible repeat (first | refine blk_drewN ?_ _ | refine blk_drew ?_ | refine blk_alloc ?_ _)); refine blk_put (cs := #[.string t473, .int .i64 t474, .int .i64 t475, .int .i64 t476, .int .i64 t477, .int .i64 0, .int .i64 0, .int .i64 0, .int .i64 0, .int .i64 0, .int .i64 0]) ?_ 5 _ rfl; (with_reducible repeat (first | refine blk_drewN ?_ _ | refine blk_drew ?_ | refine blk_alloc ?_ _)); refine blk_put (cs := #[.string t473, .int .i64 t474, .int .i64 t475, .int .i64 t476, .int .i64 0, .int .i64 0, .int .i64 0, .int .i64 0, .int .i64 0, .int .i64 0, .int .i64 0]) ?_ 4 _ rfl; (with_reducible repeat (first | refine blk_drewN ?_ _ | refine blk_drew ?_ | refine blk_alloc ?_ _)); refine blk_put (cs := #[.string t473, .int .i64 t474, .int .i64 t475, .int .i64 0, .int .i64 0, .int .i64 0, .int .i64 0, .int .i64 0, .int .i64 0, .int .i64 0, .int .i64 0]) ?_ 3 _ rfl; (with_reducible repeat (first | refine blk_drewN ?_ _ | refine blk_drew ?_ | refine blk_alloc ?_ _)); refine blk_put (cs := #[.string t473, .int .i64 t474, .int .i64 0, .int .i64 0, .int .i64 0, .int .i64 0, .int .i64 0, .int .i64 0, .int .i64 0, .int .i64 0, .int .i64 0]) ?_ 2 _ rfl; (with_reducible repeat (first | refine blk_drewN ?_ _ | refine blk_drew ?_ | refine blk_alloc ?_ _)); refine blk_put (cs := #[.string t473, .int .i64 0, .int .i64 0, .int .i64 0, .int .i64 0, .int .i64 0, .int .i64 0, .int .i64 0, .int .i64 0, .int .i64 0, .int .i64 0]) ?_ 1 _ rfl; (with_reducible repeat (first | refine blk_drewN ?_ _ | refine blk_drew ?_ | refine blk_alloc ?_ _)); refine blk_put (cs := #[.string (⟨#[]⟩ : ByteArray), .int .i64 0, .int .i64 0, .int .i64 0, .int .i64 0, .int .i64 0, .int .i64 0, .int .i64 0, .int .i64 0, .int .i64 0, .int .i64 0]) ?_ 0 _ rfl; (with_reducible repeat (first | refine blk_drewN ?_ _ | refine blk_drew ?_ | refine blk_alloc ?_ _)); exact BK484.out) hb); have n1_ := Aside0.mk (below_step (by repeat (first | (with_reducible first | exact HB.out | apply below_alloc | apply pw_below_drewN | apply below_drew1 | refine below_set ?_ GE484.out) | exact HB.out)) hb); clear BK484; clear HB; have BK484 := n0_; have HB := n1_; clear n0_ n1_; (try clear hb); (try clear hb2); (try clear hk); (try clear hi); have hcz15_0 : w14.cell? ⟨gb484, 0, none⟩ = some (.string t473) := (blk_cell BK484.out 0).trans rfl; have hcz15_1 : w14.cell? ⟨gb484, 1, none⟩ = some (.int .i64 t474) := (blk_cell BK484.out 1).trans rfl; have hcz15_2 : w14.cell? ⟨gb484, 2, none⟩ = some (.int .i64 t475) := (blk_cell BK484.out 2).trans rfl; have hcz15_3 : w14.cell? ⟨gb484, 3, none⟩ = some (.int .i64 t476) := (blk_cell BK484.out 3).trans rfl; have hcz15_4 : w14.cell? ⟨gb484, 4, none⟩ = some (.int .i64 t477) := (blk_cell BK484.out 4).trans rfl; have hcz15_5 : w14.cell? ⟨gb484, 5, none⟩ = some (.int .i64 t478) := (blk_cell BK484.out 5).trans rfl; have hcz15_6 : w14.cell? ⟨gb484, 6, none⟩ = some (.int .i64 t479) := (blk_cell BK484.out 6).trans rfl; have hcz15_7 : w14.cell? ⟨gb484, 7, none⟩ = some (.int .i64 t480) := (blk_cell BK484.out 7).trans rfl; have hcz15_8 : w14.cell? ⟨gb484, 8, none⟩ = some (.int .i64 t481) := (blk_cell BK484.out 8).trans rfl; have hcz15_9 : w14.cell? ⟨gb484, 9, none⟩ = some (.int .i64 t482) := (blk_cell BK484.out 9).trans rfl; have hcz15_10 : w14.cell? ⟨gb484, 10, none⟩ = some (.int .i64 t483) := (blk_cell BK484.out 10).trans rfl; have hfz15_0 := blk_frozen BK484.out 0; have hfz15_1 := blk_frozen BK484.out 1; have hfz15_2 := blk_frozen BK484.out 2; have hfz15_3 := blk_frozen BK484.out 3; have hfz15_4 := blk_frozen BK484.out 4; have hfz15_5 := blk_frozen BK484.out 5; have hfz15_6 := blk_frozen BK484.out 6; have hfz15_7 := blk_frozen BK484.out 7; have hfz15_8 := blk_frozen BK484.out 8; have hfz15_9 := blk_frozen BK484.out 9; have hfz15_10 := blk_frozen BK484.out 10))
              go_meet
              case rel => exact ⟨_, (decide (t475 ≤ 4)), (by first | rfl | (simp; done) | (simp [*]; done)), H', ⟨by first | omega | exact Nat.le_refl _⟩, ⟨by (with_reducible repeat (first | refine blk_drewN ?_ _ | refine blk_drew ?_ | refine blk_alloc ?_ _)); exact BK484.out⟩, ⟨by repeat (first | (with_reducible first | exact HB.out | apply below_alloc | apply pw_below_drewN | apply below_drew1 | refine below_set ?_ GE484.out) | exact HB.out)⟩⟩
            · rw [if_neg c12] at H
              have c12b0 : decide (1 ≤ t475) = false := decide_eq_false c12
              clear c12
              have H' := Aside0.mk H
              clear H
              have hcz16_0 : w6.cell? ⟨gb484, 0, none⟩ = some (.string (⟨#[]⟩ : ByteArray)) := (blk_cell BK484.out 0).trans rfl
              have hcz16_1 : w6.cell? ⟨gb484, 1, none⟩ = some (.int .i64 0) := (blk_cell BK484.out 1).trans rfl
              have hcz16_2 : w6.cell? ⟨gb484, 2, none⟩ = some (.int .i64 0) := (blk_cell BK484.out 2).trans rfl
              have hcz16_3 : w6.cell? ⟨gb484, 3, none⟩ = some (.int .i64 0) := (blk_cell BK484.out 3).trans rfl
              have hcz16_4 : w6.cell? ⟨gb484, 4, none⟩ = some (.int .i64 0) := (blk_cell BK484.out 4).trans rfl
              have hcz16_5 : w6.cell? ⟨gb484, 5, none⟩ = some (.int .i64 0) := (blk_cell BK484.out 5).trans rfl
              have hcz16_6 : w6.cell? ⟨gb484, 6, none⟩ = some (.int .i64 0) := (blk_cell BK484.out 6).trans rfl
              have hcz16_7 : w6.cell? ⟨gb484, 7, none⟩ = some (.int .i64 0) := (blk_cell BK484.out 7).trans rfl
              have hcz16_8 : w6.cell? ⟨gb484, 8, none⟩ = some (.int .i64 0) := (blk_cell BK484.out 8).trans rfl
              have hcz16_9 : w6.cell? ⟨gb484, 9, none⟩ = some (.int .i64 0) := (blk_cell BK484.out 9).trans rfl
              have hcz16_10 : w6.cell? ⟨gb484, 10, none⟩ = some (.int .i64 0) := (blk_cell BK484.out 10).trans rfl
              have hfz16_0 := blk_frozen BK484.out 0
              have hfz16_1 := blk_frozen BK484.out 1
              have hfz16_2 := blk_frozen BK484.out 2
              have hfz16_3 := blk_frozen BK484.out 3
              have hfz16_4 := blk_frozen BK484.out 4
              have hfz16_5 := blk_frozen BK484.out 5
              have hfz16_6 := blk_frozen BK484.out 6
              have hfz16_7 := blk_frozen BK484.out 7
              have hfz16_8 := blk_frozen BK484.out 8
              have hfz16_9 := blk_frozen BK484.out 9
              have hfz16_10 := blk_frozen BK484.out 10
              go_wp2_with (first | ((with_reducible refine gate_callee (f := 25) rfl ?_); refine goesL_ (some 12) rfl rfl Tryd.func25 (by kernel_rfl) rfl #[.string t473] rfl (by (try simp only [List.map_toArray, List.map_cons, List.map_nil]); first | done | rfl | (simp only [List.length_drop, List.length_take]; rfl)) ?_; (with_reducible refine (impl_TxtOk.calls k t473 true _ A8.out).mono ?_); rintro e w17 ⟨rfl, hb⟩; refine ⟨_, rfl, ?_⟩; have n0_ := Aside0.mk (blk_below (g := gb484) (o := .cells #[.string t473, .int .i64 t474, .int .i64 t475, .int .i64 t476, .int .i64 t477, .int .i64 t478, .int .i64 t479, .int .i64 t480, .int .i64 t481, .int .i64 t482, .int .i64 t483] 38 (0, 0)) (by (with_reducible repeat (first | refine blk_drewN ?_ _ | refine blk_drew ?_ | refine blk_alloc ?_ _)); refine blk_put (cs := #[.string t473, .int .i64 t474, .int .i64 t475, .int .i64 t476, .int .i64 t477, .int .i64 t478, .int .i64 t479, .int .i64 t480, .int .i64 t481, .int .i64 t482, .int .i64 0]) ?_ 10 _ rfl; (with_reducible repeat (first | refine blk_drewN ?_ _ | refine blk_drew ?_ | refine blk_alloc ?_ _)); refine blk_put (cs := #[.string t473, .int .i64 t474, .int .i64 t475, .int .i64 t476, .int .i64 t477, .int .i64 t478, .int .i64 t479, .int .i64 t480, .int .i64 t481, .int .i64 0, .int .i64 0]) ?_ 9 _ rfl; (with_reducible repeat (first | refine blk_drewN ?_ _ | refine blk_drew ?_ | refine blk_alloc ?_ _)); refine blk_put (cs := #[.string t473, .int .i64 t474, .int .i64 t475, .int .i64 t476, .int .i64 t477, .int .i64 t478, .int .i64 t479, .int .i64 t480, .int .i64 0, .int .i64 0, .int .i64 0]) ?_ 8 _ rfl; (with_reducible repeat (first | refine blk_drewN ?_ _ | refine blk_drew ?_ | refine blk_alloc ?_ _)); refine blk_put (cs := #[.string t473, .int .i64 t474, .int .i64 t475, .int .i64 t476, .int .i64 t477, .int .i64 t478, .int .i64 t479, .int .i64 0, .int .i64 0, .int .i64 0, .int .i64 0]) ?_ 7 _ rfl; (with_reducible repeat (first | refine blk_drewN ?_ _ | refine blk_drew ?_ | refine blk_alloc ?_ _)); refine blk_put (cs := #[.string t473, .int .i64 t474, .int .i64 t475, .int .i64 t476, .int .i64 t477, .int .i64 t478, .int .i64 0, .int .i64 0, .int .i64 0, .int .i64 0, .int .i64 0]) ?_ 6 _ rfl; (with_reducible repeat (first | refine blk_drewN ?_ _ | refine blk_drew ?_ | refine blk_alloc ?_ _)); refine blk_put (cs := #[.string t473, .int .i64 t474, .int .i64 t475, .int .i64 t476, .int .i64 t477, .int .i64 0, .int .i64 0, .int .i64 0, .int .i64 0, .int .i64 0, .int .i64 0]) ?_ 5 _ rfl; (with_reducible repeat (first | refine blk_drewN ?_ _ | refine blk_drew ?_ | refine blk_alloc ?_ _)); refine blk_put (cs := #[.string t473, .int .i64 t474, .int .i64 t475, .int .i64 t476, .int .i64 0, .int .i64 0, .int .i64 0, .int .i64 0, .int .i64 0, .int .i64 0, .int .i64 0]) ?_ 4 _ rfl; (with_reducible repeat (first | refine blk_drewN ?_ _ | refine blk_drew ?_ | refine blk_alloc ?_ _)); refine blk_put (cs := #[.string t473, .int .i64 t474, .int .i64 t475, .int .i64 0, .int .i64 0, .int .i64 0, .int .i64 0, .int .i64 0, .int .i64 0, .int .i64 0, .int .i64 0]) ?_ 3 _ rfl; (with_reducible repeat (first | refine blk_drewN ?_ _ | refine blk_drew ?_ | refine blk_alloc ?_ _)); refine blk_put (cs := #[.string t473, .int .i64 t474, .int .i64 0, .int .i64 0, .int .i64 0, .int .i64 0, .int .i64 0, .int .i64 0, .int .i64 0, .int .i64 0, .int .i64 0]) ?_ 2 _ rfl; (with_reducible repeat (first | refine blk_drewN ?_ _ | refine blk_drew ?_ | refine blk_alloc ?_ _)); refine blk_put (cs := #[.string t473, .int .i64 0, .int .i64 0, .int .i64 0, .int .i64 0, .int .i64 0, .int .i64 0, .int .i64 0, .int .i64 0, .int .i64 0, .int .i64 0]) ?_ 1 _ rfl; (with_reducible repeat (first | refine blk_drewN ?_ _ | refine blk_drew ?_ | refine blk_alloc ?_ _)); refine blk_put (cs := #[.string (⟨#[]⟩ : ByteArray), .int .i64 0, .int .i64 0, .int .i64 0, .int .i64 0, .int .i64 0, .int .i64 0, .int .i64 0, .int .i64 0, .int .i64 0, .int .i64 0]) ?_ 0 _ rfl; (with_reducible repeat (first | refine blk_drewN ?_ _ | refine blk_drew ?_ | refine blk_alloc ?_ _)); exact BK484.out) hb); have n1_ := Aside0.mk (below_step (by repeat (first | (with_reducible first | exact HB.out | apply below_alloc | apply pw_below_drewN | apply below_drew1 | refine below_set ?_ GE484.out) | exact HB.out)) hb); clear BK484; clear HB; have BK484 := n0_; have HB := n1_; clear n0_ n1_; (try clear hb); (try clear hb2); (try clear hk); (try clear hi); have hcz18_0 : w17.cell? ⟨gb484, 0, none⟩ = some (.string t473) := (blk_cell BK484.out 0).trans rfl; have hcz18_1 : w17.cell? ⟨gb484, 1, none⟩ = some (.int .i64 t474) := (blk_cell BK484.out 1).trans rfl; have hcz18_2 : w17.cell? ⟨gb484, 2, none⟩ = some (.int .i64 t475) := (blk_cell BK484.out 2).trans rfl; have hcz18_3 : w17.cell? ⟨gb484, 3, none⟩ = some (.int .i64 t476) := (blk_cell BK484.out 3).trans rfl; have hcz18_4 : w17.cell? ⟨gb484, 4, none⟩ = some (.int .i64 t477) := (blk_cell BK484.out 4).trans rfl; have hcz18_5 : w17.cell? ⟨gb484, 5, none⟩ = some (.int .i64 t478) := (blk_cell BK484.out 5).trans rfl; have hcz18_6 : w17.cell? ⟨gb484, 6, none⟩ = some (.int .i64 t479) := (blk_cell BK484.out 6).trans rfl; have hcz18_7 : w17.cell? ⟨gb484, 7, none⟩ = some (.int .i64 t480) := (blk_cell BK484.out 7).trans rfl; have hcz18_8 : w17.cell? ⟨gb484, 8, none⟩ = some (.int .i64 t481) := (blk_cell BK484.out 8).trans rfl; have hcz18_9 : w17.cell? ⟨gb484, 9, none⟩ = some (.int .i64 t482) := (blk_cell BK484.out 9).trans rfl; have hcz18_10 : w17.cell? ⟨gb484, 10, none⟩ = some (.int .i64 t483) := (blk_cell BK484.out 10).trans rfl; have hfz18_0 := blk_frozen BK484.out 0; have hfz18_1 := blk_frozen BK484.out 1; have hfz18_2 := blk_frozen BK484.out 2; have hfz18_3 := blk_frozen BK484.out 3; have hfz18_4 := blk_frozen BK484.out 4; have hfz18_5 := blk_frozen BK484.out 5; have hfz18_6 := blk_frozen BK484.out 6; have hfz18_7 := blk_frozen BK484.out 7; have hfz18_8 := blk_frozen BK484.out 8; have hfz18_9 := blk_frozen BK484.out 9; have hfz18_10 := blk_frozen BK484.out 10))
              go_meet
              case rel => exact ⟨_, (false), (by first | rfl | (simp; done) | (simp [*]; done)), H', ⟨by first | omega | exact Nat.le_refl _⟩, ⟨by (with_reducible repeat (first | refine blk_drewN ?_ _ | refine blk_drew ?_ | refine blk_alloc ?_ _)); exact BK484.out⟩, ⟨by repeat (first | (with_reducible first | exact HB.out | apply below_alloc | apply pw_below_drewN | apply below_drew1 | refine below_set ?_ GE484.out) | exact HB.out)⟩⟩
          · rw [if_neg c11] at H
            have c11b0 : decide (t474 ≤ 4) = false := decide_eq_false c11
            clear c11
            have H' := Aside0.mk H
            clear H
            have hcz19_0 : w6.cell? ⟨gb484, 0, none⟩ = some (.string (⟨#[]⟩ : ByteArray)) := (blk_cell BK484.out 0).trans rfl
            have hcz19_1 : w6.cell? ⟨gb484, 1, none⟩ = some (.int .i64 0) := (blk_cell BK484.out 1).trans rfl
            have hcz19_2 : w6.cell? ⟨gb484, 2, none⟩ = some (.int .i64 0) := (blk_cell BK484.out 2).trans rfl
            have hcz19_3 : w6.cell? ⟨gb484, 3, none⟩ = some (.int .i64 0) := (blk_cell BK484.out 3).trans rfl
            have hcz19_4 : w6.cell? ⟨gb484, 4, none⟩ = some (.int .i64 0) := (blk_cell BK484.out 4).trans rfl
            have hcz19_5 : w6.cell? ⟨gb484, 5, none⟩ = some (.int .i64 0) := (blk_cell BK484.out 5).trans rfl
            have hcz19_6 : w6.cell? ⟨gb484, 6, none⟩ = some (.int .i64 0) := (blk_cell BK484.out 6).trans rfl
            have hcz19_7 : w6.cell? ⟨gb484, 7, none⟩ = some (.int .i64 0) := (blk_cell BK484.out 7).trans rfl
            have hcz19_8 : w6.cell? ⟨gb484, 8, none⟩ = some (.int .i64 0) := (blk_cell BK484.out 8).trans rfl
            have hcz19_9 : w6.cell? ⟨gb484, 9, none⟩ = some (.int .i64 0) := (blk_cell BK484.out 9).trans rfl
            have hcz19_10 : w6.cell? ⟨gb484, 10, none⟩ = some (.int .i64 0) := (blk_cell BK484.out 10).trans rfl
            have hfz19_0 := blk_frozen BK484.out 0
            have hfz19_1 := blk_frozen BK484.out 1
            have hfz19_2 := blk_frozen BK484.out 2
            have hfz19_3 := blk_frozen BK484.out 3
            have hfz19_4 := blk_frozen BK484.out 4
            have hfz19_5 := blk_frozen BK484.out 5
            have hfz19_6 := blk_frozen BK484.out 6
            have hfz19_7 := blk_frozen BK484.out 7
            have hfz19_8 := blk_frozen BK484.out 8
            have hfz19_9 := blk_frozen BK484.out 9
            have hfz19_10 := blk_frozen BK484.out 10
            go_wp2_with (first | ((with_reducible refine gate_callee (f := 25) rfl ?_); refine goesL_ (some 12) rfl rfl Tryd.func25 (by kernel_rfl) rfl #[.string t473] rfl (by (try simp only [List.map_toArray, List.map_cons, List.map_nil]); first | done | rfl | (simp only [List.length_drop, List.length_take]; rfl)) ?_; (with_reducible refine (impl_TxtOk.calls k t473 true _ A8.out).mono ?_); rintro e w20 ⟨rfl, hb⟩; refine ⟨_, rfl, ?_⟩; have n0_ := Aside0.mk (blk_below (g := gb484) (o := .cells #[.string t473, .int .i64 t474, .int .i64 t475, .int .i64 t476, .int .i64 t477, .int .i64 t478, .int .i64 t479, .int .i64 t480, .int .i64 t481, .int .i64 t482, .int .i64 t483] 38 (0, 0)) (by (with_reducible repeat (first | refine blk_drewN ?_ _ | refine blk_drew ?_ | refine blk_alloc ?_ _)); refine blk_put (cs := #[.string t473, .int .i64 t474, .int .i64 t475, .int .i64 t476, .int .i64 t477, .int .i64 t478, .int .i64 t479, .int .i64 t480, .int .i64 t481, .int .i64 t482, .int .i64 0]) ?_ 10 _ rfl; (with_reducible repeat (first | refine blk_drewN ?_ _ | refine blk_drew ?_ | refine blk_alloc ?_ _)); refine blk_put (cs := #[.string t473, .int .i64 t474, .int .i64 t475, .int .i64 t476, .int .i64 t477, .int .i64 t478, .int .i64 t479, .int .i64 t480, .int .i64 t481, .int .i64 0, .int .i64 0]) ?_ 9 _ rfl; (with_reducible repeat (first | refine blk_drewN ?_ _ | refine blk_drew ?_ | refine blk_alloc ?_ _)); refine blk_put (cs := #[.string t473, .int .i64 t474, .int .i64 t475, .int .i64 t476, .int .i64 t477, .int .i64 t478, .int .i64 t479, .int .i64 t480, .int .i64 0, .int .i64 0, .int .i64 0]) ?_ 8 _ rfl; (with_reducible repeat (first | refine blk_drewN ?_ _ | refine blk_drew ?_ | refine blk_alloc ?_ _)); refine blk_put (cs := #[.string t473, .int .i64 t474, .int .i64 t475, .int .i64 t476, .int .i64 t477, .int .i64 t478, .int .i64 t479, .int .i64 0, .int .i64 0, .int .i64 0, .int .i64 0]) ?_ 7 _ rfl; (with_reducible repeat (first | refine blk_drewN ?_ _ | refine blk_drew ?_ | refine blk_alloc ?_ _)); refine blk_put (cs := #[.string t473, .int .i64 t474, .int .i64 t475, .int .i64 t476, .int .i64 t477, .int .i64 t478, .int .i64 0, .int .i64 0, .int .i64 0, .int .i64 0, .int .i64 0]) ?_ 6 _ rfl; (with_reducible repeat (first | refine blk_drewN ?_ _ | refine blk_drew ?_ | refine blk_alloc ?_ _)); refine blk_put (cs := #[.string t473, .int .i64 t474, .int .i64 t475, .int .i64 t476, .int .i64 t477, .int .i64 0, .int .i64 0, .int .i64 0, .int .i64 0, .int .i64 0, .int .i64 0]) ?_ 5 _ rfl; (with_reducible repeat (first | refine blk_drewN ?_ _ | refine blk_drew ?_ | refine blk_alloc ?_ _)); refine blk_put (cs := #[.string t473, .int .i64 t474, .int .i64 t475, .int .i64 t476, .int .i64 0, .int .i64 0, .int .i64 0, .int .i64 0, .int .i64 0, .int .i64 0, .int .i64 0]) ?_ 4 _ rfl; (with_reducible repeat (first | refine blk_drewN ?_ _ | refine blk_drew ?_ | refine blk_alloc ?_ _)); refine blk_put (cs := #[.string t473, .int .i64 t474, .int .i64 t475, .int .i64 0, .int .i64 0, .int .i64 0, .int .i64 0, .int .i64 0, .int .i64 0, .int .i64 0, .int .i64 0]) ?_ 3 _ rfl; (with_reducible repeat (first | refine blk_drewN ?_ _ | refine blk_drew ?_ | refine blk_alloc ?_ _)); refine blk_put (cs := #[.string t473, .int .i64 t474, .int .i64 0, .int .i64 0, .int .i64 0, .int .i64 0, .int .i64 0, .int .i64 0, .int .i64 0, .int .i64 0, .int .i64 0]) ?_ 2 _ rfl; (with_reducible repeat (first | refine blk_drewN ?_ _ | refine blk_drew ?_ | refine blk_alloc ?_ _)); refine blk_put (cs := #[.string t473, .int .i64 0, .int .i64 0, .int .i64 0, .int .i64 0, .int .i64 0, .int .i64 0, .int .i64 0, .int .i64 0, .int .i64 0, .int .i64 0]) ?_ 1 _ rfl; (with_reducible repeat (first | refine blk_drewN ?_ _ | refine blk_drew ?_ | refine blk_alloc ?_ _)); refine blk_put (cs := #[.string (⟨#[]⟩ : ByteArray), .int .i64 0, .int .i64 0, .int .i64 0, .int .i64 0, .int .i64 0, .int .i64 0, .int .i64 0, .int .i64 0, .int .i64 0, .int .i64 0]) ?_ 0 _ rfl; (with_reducible repeat (first | refine blk_drewN ?_ _ | refine blk_drew ?_ | refine blk_alloc ?_ _)); exact BK484.out) hb); have n1_ := Aside0.mk (below_step (by repeat (first | (with_reducible first | exact HB.out | apply below_alloc | apply pw_below_drewN | apply below_drew1 | refine below_set ?_ GE484.out) | exact HB.out)) hb); clear BK484; clear HB; have BK484 := n0_; have HB := n1_; clear n0_ n1_; (try clear hb); (try clear hb2); (try clear hk); (try clear hi); have hcz21_0 : w20.cell? ⟨gb484, 0, none⟩ = some (.string t473) := (blk_cell BK484.out 0).trans rfl; have hcz21_1 : w20.cell? ⟨gb484, 1, none⟩ = some (.int .i64 t474) := (blk_cell BK484.out 1).trans rfl; have hcz21_2 : w20.cell? ⟨gb484, 2, none⟩ = some (.int .i64 t475) := (blk_cell BK484.out 2).trans rfl; have hcz21_3 : w20.cell? ⟨gb484, 3, none⟩ = some (.int .i64 t476) := (blk_cell BK484.out 3).trans rfl; have hcz21_4 : w20.cell? ⟨gb484, 4, none⟩ = some (.int .i64 t477) := (blk_cell BK484.out 4).trans rfl; have hcz21_5 : w20.cell? ⟨gb484, 5, none⟩ = some (.int .i64 t478) := (blk_cell BK484.out 5).trans rfl; have hcz21_6 : w20.cell? ⟨gb484, 6, none⟩ = some (.int .i64 t479) := (blk_cell BK484.out 6).trans rfl; have hcz21_7 : w20.cell? ⟨gb484, 7, none⟩ = some (.int .i64 t480) := (blk_cell BK484.out 7).trans rfl; have hcz21_8 : w20.cell? ⟨gb484, 8, none⟩ = some (.int .i64 t481) := (blk_cell BK484.out 8).trans rfl; have hcz21_9 : w20.cell? ⟨gb484, 9, none⟩ = some (.int .i64 t482) := (blk_cell BK484.out 9).trans rfl; have hcz21_10 : w20.cell? ⟨gb484, 10, none⟩ = some (.int .i64 t483) := (blk_cell BK484.out 10).trans rfl; have hfz21_0 := blk_frozen BK484.out 0; have hfz21_1 := blk_frozen BK484.out 1; have hfz21_2 := blk_frozen BK484.out 2; have hfz21_3 := blk_frozen BK484.out 3; have hfz21_4 := blk_frozen BK484.out 4; have hfz21_5 := blk_frozen BK484.out 5; have hfz21_6 := blk_frozen BK484.out 6; have hfz21_7 := blk_frozen BK484.out 7; have hfz21_8 := blk_frozen BK484.out 8; have hfz21_9 := blk_frozen BK484.out 9; have hfz21_10 := blk_frozen BK484.out 10))
            go_meet
            case rel => exact ⟨_, (false), (by first | rfl | (simp; done) | (simp [*]; done)), H', ⟨by first | omega | exact Nat.le_refl _⟩, ⟨by (with_reducible repeat (first | refine blk_drewN ?_ _ | refine blk_drew ?_ | refine blk_alloc ?_ _)); exact BK484.out⟩, ⟨by repeat (first | (with_reducible first | exact HB.out | apply below_alloc | apply pw_below_drewN | apply below_drew1 | refine below_set ?_ GE484.out) | exact HB.out)⟩⟩
        · rw [if_neg c10] at H
          have c10b0 : decide (1 ≤ t474) = false := decide_eq_false c10
          clear c10
          (first | rw [c10b0] | (simp only [i64_w, i32_w]; rw [c10b0]) | skip)
          have H' := Aside0.mk H
          clear H
          have hcz22_0 : w6.cell? ⟨gb484, 0, none⟩ = some (.string (⟨#[]⟩ : ByteArray)) := (blk_cell BK484.out 0).trans rfl
          have hcz22_1 : w6.cell? ⟨gb484, 1, none⟩ = some (.int .i64 0) := (blk_cell BK484.out 1).trans rfl
          have hcz22_2 : w6.cell? ⟨gb484, 2, none⟩ = some (.int .i64 0) := (blk_cell BK484.out 2).trans rfl
          have hcz22_3 : w6.cell? ⟨gb484, 3, none⟩ = some (.int .i64 0) := (blk_cell BK484.out 3).trans rfl
          have hcz22_4 : w6.cell? ⟨gb484, 4, none⟩ = some (.int .i64 0) := (blk_cell BK484.out 4).trans rfl
          have hcz22_5 : w6.cell? ⟨gb484, 5, none⟩ = some (.int .i64 0) := (blk_cell BK484.out 5).trans rfl
          have hcz22_6 : w6.cell? ⟨gb484, 6, none⟩ = some (.int .i64 0) := (blk_cell BK484.out 6).trans rfl
          have hcz22_7 : w6.cell? ⟨gb484, 7, none⟩ = some (.int .i64 0) := (blk_cell BK484.out 7).trans rfl
          have hcz22_8 : w6.cell? ⟨gb484, 8, none⟩ = some (.int .i64 0) := (blk_cell BK484.out 8).trans rfl
          have hcz22_9 : w6.cell? ⟨gb484, 9, none⟩ = some (.int .i64 0) := (blk_cell BK484.out 9).trans rfl
          have hcz22_10 : w6.cell? ⟨gb484, 10, none⟩ = some (.int .i64 0) := (blk_cell BK484.out 10).trans rfl
          have hfz22_0 := blk_frozen BK484.out 0
          have hfz22_1 := blk_frozen BK484.out 1
          have hfz22_2 := blk_frozen BK484.out 2
          have hfz22_3 := blk_frozen BK484.out 3
          have hfz22_4 := blk_frozen BK484.out 4
          have hfz22_5 := blk_frozen BK484.out 5
          have hfz22_6 := blk_frozen BK484.out 6
          have hfz22_7 := blk_frozen BK484.out 7
          have hfz22_8 := blk_frozen BK484.out 8
          have hfz22_9 := blk_frozen BK484.out 9
          have hfz22_10 := blk_frozen BK484.out 10
          go_wp2_with (first | ((with_reducible refine gate_callee (f := 25) rfl ?_); refine goesL_ (some 12) rfl rfl Tryd.func25 (by kernel_rfl) rfl #[.string t473] rfl (by (try simp only [List.map_toArray, List.map_cons, List.map_nil]); first | done | rfl | (simp only [List.length_drop, List.length_take]; rfl)) ?_; (with_reducible refine (impl_TxtOk.calls k t473 true _ A8.out).mono ?_); rintro e w23 ⟨rfl, hb⟩; refine ⟨_, rfl, ?_⟩; have n0_ := Aside0.mk (blk_below (g := gb484) (o := .cells #[.string t473, .int .i64 t474, .int .i64 t475, .int .i64 t476, .int .i64 t477, .int .i64 t478, .int .i64 t479, .int .i64 t480, .int .i64 t481, .int .i64 t482, .int .i64 t483] 38 (0, 0)) (by (with_reducible repeat (first | refine blk_drewN ?_ _ | refine blk_drew ?_ | refine blk_alloc ?_ _)); refine blk_put (cs := #[.string t473, .int .i64 t474, .int .i64 t475, .int .i64 t476, .int .i64 t477, .int .i64 t478, .int .i64 t479, .int .i64 t480, .int .i64 t481, .int .i64 t482, .int .i64 0]) ?_ 10 _ rfl; (with_reducible repeat (first | refine blk_drewN ?_ _ | refine blk_drew ?_ | refine blk_alloc ?_ _)); refine blk_put (cs := #[.string t473, .int .i64 t474, .int .i64 t475, .int .i64 t476, .int .i64 t477, .int .i64 t478, .int .i64 t479, .int .i64 t480, .int .i64 t481, .int .i64 0, .int .i64 0]) ?_ 9 _ rfl; (with_reducible repeat (first | refine blk_drewN ?_ _ | refine blk_drew ?_ | refine blk_alloc ?_ _)); refine blk_put (cs := #[.string t473, .int .i64 t474, .int .i64 t475, .int .i64 t476, .int .i64 t477, .int .i64 t478, .int .i64 t479, .int .i64 t480, .int .i64 0, .int .i64 0, .int .i64 0]) ?_ 8 _ rfl; (with_reducible repeat (first | refine blk_drewN ?_ _ | refine blk_drew ?_ | refine blk_alloc ?_ _)); refine blk_put (cs := #[.string t473, .int .i64 t474, .int .i64 t475, .int .i64 t476, .int .i64 t477, .int .i64 t478, .int .i64 t479, .int .i64 0, .int .i64 0, .int .i64 0, .int .i64 0]) ?_ 7 _ rfl; (with_reducible repeat (first | refine blk_drewN ?_ _ | refine blk_drew ?_ | refine blk_alloc ?_ _)); refine blk_put (cs := #[.string t473, .int .i64 t474, .int .i64 t475, .int .i64 t476, .int .i64 t477, .int .i64 t478, .int .i64 0, .int .i64 0, .int .i64 0, .int .i64 0, .int .i64 0]) ?_ 6 _ rfl; (with_reducible repeat (first | refine blk_drewN ?_ _ | refine blk_drew ?_ | refine blk_alloc ?_ _)); refine blk_put (cs := #[.string t473, .int .i64 t474, .int .i64 t475, .int .i64 t476, .int .i64 t477, .int .i64 0, .int .i64 0, .int .i64 0, .int .i64 0, .int .i64 0, .int .i64 0]) ?_ 5 _ rfl; (with_reducible repeat (first | refine blk_drewN ?_ _ | refine blk_drew ?_ | refine blk_alloc ?_ _)); refine blk_put (cs := #[.string t473, .int .i64 t474, .int .i64 t475, .int .i64 t476, .int .i64 0, .int .i64 0, .int .i64 0, .int .i64 0, .int .i64 0, .int .i64 0, .int .i64 0]) ?_ 4 _ rfl; (with_reducible repeat (first | refine blk_drewN ?_ _ | refine blk_drew ?_ | refine blk_alloc ?_ _)); refine blk_put (cs := #[.string t473, .int .i64 t474, .int .i64 t475, .int .i64 0, .int .i64 0, .int .i64 0, .int .i64 0, .int .i64 0, .int .i64 0, .int .i64 0, .int .i64 0]) ?_ 3 _ rfl; (with_reducible repeat (first | refine blk_drewN ?_ _ | refine blk_drew ?_ | refine blk_alloc ?_ _)); refine blk_put (cs := #[.string t473, .int .i64 t474, .int .i64 0, .int .i64 0, .int .i64 0, .int .i64 0, .int .i64 0, .int .i64 0, .int .i64 0, .int .i64 0, .int .i64 0]) ?_ 2 _ rfl; (with_reducible repeat (first | refine blk_drewN ?_ _ | refine blk_drew ?_ | refine blk_alloc ?_ _)); refine blk_put (cs := #[.string t473, .int .i64 0, .int .i64 0, .int .i64 0, .int .i64 0, .int .i64 0, .int .i64 0, .int .i64 0, .int .i64 0, .int .i64 0, .int .i64 0]) ?_ 1 _ rfl; (with_reducible repeat (first | refine blk_drewN ?_ _ | refine blk_drew ?_ | refine blk_alloc ?_ _)); refine blk_put (cs := #[.string (⟨#[]⟩ : ByteArray), .int .i64 0, .int .i64 0, .int .i64 0, .int .i64 0, .int .i64 0, .int .i64 0, .int .i64 0, .int .i64 0, .int .i64 0, .int .i64 0]) ?_ 0 _ rfl; (with_reducible repeat (first | refine blk_drewN ?_ _ | refine blk_drew ?_ | refine blk_alloc ?_ _)); exact BK484.out) hb); have n1_ := Aside0.mk (below_step (by repeat (first | (with_reducible first | exact HB.out | apply below_alloc | apply pw_below_drewN | apply below_drew1 | refine below_set ?_ GE484.out) | exact HB.out)) hb); clear BK484; clear HB; have BK484 := n0_; have HB := n1_; clear n0_ n1_; (try clear hb); (try clear hb2); (try clear hk); (try clear hi); have hcz24_0 : w23.cell? ⟨gb484, 0, none⟩ = some (.string t473) := (blk_cell BK484.out 0).trans rfl; have hcz24_1 : w23.cell? ⟨gb484, 1, none⟩ = some (.int .i64 t474) := (blk_cell BK484.out 1).trans rfl; have hcz24_2 : w23.cell? ⟨gb484, 2, none⟩ = some (.int .i64 t475) := (blk_cell BK484.out 2).trans rfl; have hcz24_3 : w23.cell? ⟨gb484, 3, none⟩ = some (.int .i64 t476) := (blk_cell BK484.out 3).trans rfl; have hcz24_4 : w23.cell? ⟨gb484, 4, none⟩ = some (.int .i64 t477) := (blk_cell BK484.out 4).trans rfl; have hcz24_5 : w23.cell? ⟨gb484, 5, none⟩ = some (.int .i64 t478) := (blk_cell BK484.out 5).trans rfl; have hcz24_6 : w23.cell? ⟨gb484, 6, none⟩ = some (.int .i64 t479) := (blk_cell BK484.out 6).trans rfl; have hcz24_7 : w23.cell? ⟨gb484, 7, none⟩ = some (.int .i64 t480) := (blk_cell BK484.out 7).trans rfl; have hcz24_8 : w23.cell? ⟨gb484, 8, none⟩ = some (.int .i64 t481) := (blk_cell BK484.out 8).trans rfl; have hcz24_9 : w23.cell? ⟨gb484, 9, none⟩ = some (.int .i64 t482) := (blk_cell BK484.out 9).trans rfl; have hcz24_10 : w23.cell? ⟨gb484, 10, none⟩ = some (.int .i64 t483) := (blk_cell BK484.out 10).trans rfl; have hfz24_0 := blk_frozen BK484.out 0; have hfz24_1 := blk_frozen BK484.out 1; have hfz24_2 := blk_frozen BK484.out 2; have hfz24_3 := blk_frozen BK484.out 3; have hfz24_4 := blk_frozen BK484.out 4; have hfz24_5 := blk_frozen BK484.out 5; have hfz24_6 := blk_frozen BK484.out 6; have hfz24_7 := blk_frozen BK484.out 7; have hfz24_8 := blk_frozen BK484.out 8; have hfz24_9 := blk_frozen BK484.out 9; have hfz24_10 := blk_frozen BK484.out 10))
          go_meet
          case rel => exact ⟨_, (false), (by first | rfl | (simp; done) | (simp [*]; done)), H', ⟨by first | omega | exact Nat.le_refl _⟩, ⟨by (with_reducible repeat (first | refine blk_drewN ?_ _ | refine blk_drew ?_ | refine blk_alloc ?_ _)); exact BK484.out⟩, ⟨by repeat (first | (with_reducible first | exact HB.out | apply below_alloc | apply pw_below_drewN | apply below_drew1 | refine below_set ?_ GE484.out) | exact HB.out)⟩⟩
      · replace c9 := Bool.eq_false_iff.mpr c9
        subst c9
        have H1 : (laws_FnCellOk.j0 k false t473 t474 t475 t476 t477 t478 t479 t480 t481 t482 t483) = some r := by rw [if_neg (show ¬ (false = true) by decide)] at H; exact H
        clear H
        have H := H1
        clear H1
        have H' := Aside0.mk H
        clear H
        have hcz25_0 : w6.cell? ⟨gb484, 0, none⟩ = some (.string (⟨#[]⟩ : ByteArray)) := (blk_cell BK484.out 0).trans rfl
        have hcz25_1 : w6.cell? ⟨gb484, 1, none⟩ = some (.int .i64 0) := (blk_cell BK484.out 1).trans rfl
        have hcz25_2 : w6.cell? ⟨gb484, 2, none⟩ = some (.int .i64 0) := (blk_cell BK484.out 2).trans rfl
        have hcz25_3 : w6.cell? ⟨gb484, 3, none⟩ = some (.int .i64 0) := (blk_cell BK484.out 3).trans rfl
        have hcz25_4 : w6.cell? ⟨gb484, 4, none⟩ = some (.int .i64 0) := (blk_cell BK484.out 4).trans rfl
        have hcz25_5 : w6.cell? ⟨gb484, 5, none⟩ = some (.int .i64 0) := (blk_cell BK484.out 5).trans rfl
        have hcz25_6 : w6.cell? ⟨gb484, 6, none⟩ = some (.int .i64 0) := (blk_cell BK484.out 6).trans rfl
        have hcz25_7 : w6.cell? ⟨gb484, 7, none⟩ = some (.int .i64 0) := (blk_cell BK484.out 7).trans rfl
        have hcz25_8 : w6.cell? ⟨gb484, 8, none⟩ = some (.int .i64 0) := (blk_cell BK484.out 8).trans rfl
        have hcz25_9 : w6.cell? ⟨gb484, 9, none⟩ = some (.int .i64 0) := (blk_cell BK484.out 9).trans rfl
        have hcz25_10 : w6.cell? ⟨gb484, 10, none⟩ = some (.int .i64 0) := (blk_cell BK484.out 10).trans rfl
        have hfz25_0 := blk_frozen BK484.out 0
        have hfz25_1 := blk_frozen BK484.out 1
        have hfz25_2 := blk_frozen BK484.out 2
        have hfz25_3 := blk_frozen BK484.out 3
        have hfz25_4 := blk_frozen BK484.out 4
        have hfz25_5 := blk_frozen BK484.out 5
        have hfz25_6 := blk_frozen BK484.out 6
        have hfz25_7 := blk_frozen BK484.out 7
        have hfz25_8 := blk_frozen BK484.out 8
        have hfz25_9 := blk_frozen BK484.out 9
        have hfz25_10 := blk_frozen BK484.out 10
        go_wp2_with (first | ((with_reducible refine gate_callee (f := 25) rfl ?_); refine goesL_ (some 12) rfl rfl Tryd.func25 (by kernel_rfl) rfl #[.string t473] rfl (by (try simp only [List.map_toArray, List.map_cons, List.map_nil]); first | done | rfl | (simp only [List.length_drop, List.length_take]; rfl)) ?_; (with_reducible refine (impl_TxtOk.calls k t473 false _ A8.out).mono ?_); rintro e w26 ⟨rfl, hb⟩; refine ⟨_, rfl, ?_⟩; have n0_ := Aside0.mk (blk_below (g := gb484) (o := .cells #[.string t473, .int .i64 t474, .int .i64 t475, .int .i64 t476, .int .i64 t477, .int .i64 t478, .int .i64 t479, .int .i64 t480, .int .i64 t481, .int .i64 t482, .int .i64 t483] 38 (0, 0)) (by (with_reducible repeat (first | refine blk_drewN ?_ _ | refine blk_drew ?_ | refine blk_alloc ?_ _)); refine blk_put (cs := #[.string t473, .int .i64 t474, .int .i64 t475, .int .i64 t476, .int .i64 t477, .int .i64 t478, .int .i64 t479, .int .i64 t480, .int .i64 t481, .int .i64 t482, .int .i64 0]) ?_ 10 _ rfl; (with_reducible repeat (first | refine blk_drewN ?_ _ | refine blk_drew ?_ | refine blk_alloc ?_ _)); refine blk_put (cs := #[.string t473, .int .i64 t474, .int .i64 t475, .int .i64 t476, .int .i64 t477, .int .i64 t478, .int .i64 t479, .int .i64 t480, .int .i64 t481, .int .i64 0, .int .i64 0]) ?_ 9 _ rfl; (with_reducible repeat (first | refine blk_drewN ?_ _ | refine blk_drew ?_ | refine blk_alloc ?_ _)); refine blk_put (cs := #[.string t473, .int .i64 t474, .int .i64 t475, .int .i64 t476, .int .i64 t477, .int .i64 t478, .int .i64 t479, .int .i64 t480, .int .i64 0, .int .i64 0, .int .i64 0]) ?_ 8 _ rfl; (with_reducible repeat (first | refine blk_drewN ?_ _ | refine blk_drew ?_ | refine blk_alloc ?_ _)); refine blk_put (cs := #[.string t473, .int .i64 t474, .int .i64 t475, .int .i64 t476, .int .i64 t477, .int .i64 t478, .int .i64 t479, .int .i64 0, .int .i64 0, .int .i64 0, .int .i64 0]) ?_ 7 _ rfl; (with_reducible repeat (first | refine blk_drewN ?_ _ | refine blk_drew ?_ | refine blk_alloc ?_ _)); refine blk_put (cs := #[.string t473, .int .i64 t474, .int .i64 t475, .int .i64 t476, .int .i64 t477, .int .i64 t478, .int .i64 0, .int .i64 0, .int .i64 0, .int .i64 0, .int .i64 0]) ?_ 6 _ rfl; (with_reducible repeat (first | refine blk_drewN ?_ _ | refine blk_drew ?_ | refine blk_alloc ?_ _)); refine blk_put (cs := #[.string t473, .int .i64 t474, .int .i64 t475, .int .i64 t476, .int .i64 t477, .int .i64 0, .int .i64 0, .int .i64 0, .int .i64 0, .int .i64 0, .int .i64 0]) ?_ 5 _ rfl; (with_reducible repeat (first | refine blk_drewN ?_ _ | refine blk_drew ?_ | refine blk_alloc ?_ _)); refine blk_put (cs := #[.string t473, .int .i64 t474, .int .i64 t475, .int .i64 t476, .int .i64 0, .int .i64 0, .int .i64 0, .int .i64 0, .int .i64 0, .int .i64 0, .int .i64 0]) ?_ 4 _ rfl; (with_reducible repeat (first | refine blk_drewN ?_ _ | refine blk_drew ?_ | refine blk_alloc ?_ _)); refine blk_put (cs := #[.string t473, .int .i64 t474, .int .i64 t475, .int .i64 0, .int .i64 0, .int .i64 0, .int .i64 0, .int .i64 0, .int .i64 0, .int .i64 0, .int .i64 0]) ?_ 3 _ rfl; (with_reducible repeat (first | refine blk_drewN ?_ _ | refine blk_drew ?_ | refine blk_alloc ?_ _)); refine blk_put (cs := #[.string t473, .int .i64 t474, .int .i64 0, .int .i64 0, .int .i64 0, .int .i64 0, .int .i64 0, .int .i64 0, .int .i64 0, .int .i64 0, .int .i64 0]) ?_ 2 _ rfl; (with_reducible repeat (first | refine blk_drewN ?_ _ | refine blk_drew ?_ | refine blk_alloc ?_ _)); refine blk_put (cs := #[.string t473, .int .i64 0, .int .i64 0, .int .i64 0, .int .i64 0, .int .i64 0, .int .i64 0, .int .i64 0, .int .i64 0, .int .i64 0, .int .i64 0]) ?_ 1 _ rfl; (with_reducible repeat (first | refine blk_drewN ?_ _ | refine blk_drew ?_ | refine blk_alloc ?_ _)); refine blk_put (cs := #[.string (⟨#[]⟩ : ByteArray), .int .i64 0, .int .i64 0, .int .i64 0, .int .i64 0, .int .i64 0, .int .i64 0, .int .i64 0, .int .i64 0, .int .i64 0, .int .i64 0]) ?_ 0 _ rfl; (with_reducible repeat (first | refine blk_drewN ?_ _ | refine blk_drew ?_ | refine blk_alloc ?_ _)); exact BK484.out) hb); have n1_ := Aside0.mk (below_step (by repeat (first | (with_reducible first | exact HB.out | apply below_alloc | apply pw_below_drewN | apply below_drew1 | refine below_set ?_ GE484.out) | exact HB.out)) hb); clear BK484; clear HB; have BK484 := n0_; have HB := n1_; clear n0_ n1_; (try clear hb); (try clear hb2); (try clear hk); (try clear hi)))
        go_meet
        case rel => exact ⟨_, (false), (by first | rfl | (simp; done) | (simp [*]; done)), H', ⟨by first | omega | exact Nat.le_refl _⟩, ⟨by (with_reducible repeat (first | refine blk_drewN ?_ _ | refine blk_drew ?_ | refine blk_alloc ?_ _)); exact BK484.out⟩, ⟨by repeat (first | (with_reducible first | exact HB.out | apply below_alloc | apply pw_below_drewN | apply below_drew1 | refine below_set ?_ GE484.out) | exact HB.out)⟩⟩
    case rest =>
      clear HC4
      try clear c1
      try clear c2
      try clear c2b0
      try clear c2b1
      try clear p2
      try clear c9
      try clear c10
      try clear c10b0
      try clear c11
      try clear c11b0
      try clear c12
      try clear c12b0
      try clear c25
      try clear hcz13_0
      try clear hcz13_1
      try clear hcz13_10
      try clear hcz13_2
      try clear hcz13_3
      try clear hcz13_4
      try clear hcz13_5
      try clear hcz13_6
      try clear hcz13_7
      try clear hcz13_8
      try clear hcz13_9
      try clear hcz15_0
      try clear hcz15_1
      try clear hcz15_10
      try clear hcz15_2
      try clear hcz15_3
      try clear hcz15_4
      try clear hcz15_5
      try clear hcz15_6
      try clear hcz15_7
      try clear hcz15_8
      try clear hcz15_9
      try clear hcz16_0
      try clear hcz16_1
      try clear hcz16_10
      try clear hcz16_2
      try clear hcz16_3
      try clear hcz16_4
      try clear hcz16_5
      try clear hcz16_6
      try clear hcz16_7
      try clear hcz16_8
      try clear hcz16_9
      try clear hcz18_0
      try clear hcz18_1
      try clear hcz18_10
      try clear hcz18_2
      try clear hcz18_3
      try clear hcz18_4
      try clear hcz18_5
      try clear hcz18_6
      try clear hcz18_7
      try clear hcz18_8
      try clear hcz18_9
      try clear hcz19_0
      try clear hcz19_1
      try clear hcz19_10
      try clear hcz19_2
      try clear hcz19_3
      try clear hcz19_4
      try clear hcz19_5
      try clear hcz19_6
      try clear hcz19_7
      try clear hcz19_8
      try clear hcz19_9
      try clear hcz21_0
      try clear hcz21_1
      try clear hcz21_10
      try clear hcz21_2
      try clear hcz21_3
      try clear hcz21_4
      try clear hcz21_5
      try clear hcz21_6
      try clear hcz21_7
      try clear hcz21_8
      try clear hcz21_9
      try clear hcz22_0
      try clear hcz22_1
      try clear hcz22_10
      try clear hcz22_2
      try clear hcz22_3
      try clear hcz22_4
      try clear hcz22_5
      try clear hcz22_6
      try clear hcz22_7
      try clear hcz22_8
      try clear hcz22_9
      try clear hcz24_0
      try clear hcz24_1
      try clear hcz24_10
      try clear hcz24_2
      try clear hcz24_3
      try clear hcz24_4
      try clear hcz24_5
      try clear hcz24_6
      try clear hcz24_7
      try clear hcz24_8
      try clear hcz24_9
      try clear hcz25_0
      try clear hcz25_1
      try clear hcz25_10
      try clear hcz25_2
      try clear hcz25_3
      try clear hcz25_4
      try clear hcz25_5
      try clear hcz25_6
      try clear hcz25_7
      try clear hcz25_8
      try clear hcz25_9
      try clear hcz7_0
      try clear hcz7_1
      try clear hcz7_10
      try clear hcz7_2
      try clear hcz7_3
      try clear hcz7_4
      try clear hcz7_5
      try clear hcz7_6
      try clear hcz7_7
      try clear hcz7_8
      try clear hcz7_9
      try clear hfz13_0
      try clear hfz13_1
      try clear hfz13_10
      try clear hfz13_2
      try clear hfz13_3
      try clear hfz13_4
      try clear hfz13_5
      try clear hfz13_6
      try clear hfz13_7
      try clear hfz13_8
      try clear hfz13_9
      try clear hfz15_0
      try clear hfz15_1
      try clear hfz15_10
      try clear hfz15_2
      try clear hfz15_3
      try clear hfz15_4
      try clear hfz15_5
      try clear hfz15_6
      try clear hfz15_7
      try clear hfz15_8
      try clear hfz15_9
      try clear hfz16_0
      try clear hfz16_1
      try clear hfz16_10
      try clear hfz16_2
      try clear hfz16_3
      try clear hfz16_4
      try clear hfz16_5
      try clear hfz16_6
      try clear hfz16_7
      try clear hfz16_8
      try clear hfz16_9
      try clear hfz18_0
      try clear hfz18_1
      try clear hfz18_10
      try clear hfz18_2
      try clear hfz18_3
      try clear hfz18_4
      try clear hfz18_5
      try clear hfz18_6
      try clear hfz18_7
      try clear hfz18_8
      try clear hfz18_9
      try clear hfz19_0
      try clear hfz19_1
      try clear hfz19_10
      try clear hfz19_2
      try clear hfz19_3
      try clear hfz19_4
      try clear hfz19_5
      try clear hfz19_6
      try clear hfz19_7
      try clear hfz19_8
      try clear hfz19_9
      try clear hfz21_0
      try clear hfz21_1
      try clear hfz21_10
      try clear hfz21_2
      try clear hfz21_3
      try clear hfz21_4
      try clear hfz21_5
      try clear hfz21_6
      try clear hfz21_7
      try clear hfz21_8
      try clear hfz21_9
      try clear hfz22_0
      try clear hfz22_1
      try clear hfz22_10
      try clear hfz22_2
      try clear hfz22_3
      try clear hfz22_4
      try clear hfz22_5
      try clear hfz22_6
      try clear hfz22_7
      try clear hfz22_8
      try clear hfz22_9
      try clear hfz24_0
      try clear hfz24_1
      try clear hfz24_10
      try clear hfz24_2
      try clear hfz24_3
      try clear hfz24_4
      try clear hfz24_5
      try clear hfz24_6
      try clear hfz24_7
      try clear hfz24_8
      try clear hfz24_9
      try clear hfz25_0
      try clear hfz25_1
      try clear hfz25_10
      try clear hfz25_2
      try clear hfz25_3
      try clear hfz25_4
      try clear hfz25_5
      try clear hfz25_6
      try clear hfz25_7
      try clear hfz25_8
      try clear hfz25_9
      try clear hfz7_0
      try clear hfz7_1
      try clear hfz7_10
      try clear hfz7_2
      try clear hfz7_3
      try clear hfz7_4
      try clear hfz7_5
      try clear hfz7_6
      try clear hfz7_7
      try clear hfz7_8
      try clear hfz7_9
      obtain ⟨kq, x4_3, rfl, HA, HJ3, BK484, HB⟩ := hcut
      cases kq with
      | zero => exact absurd HA.out (by simp [laws_FnCellOk.j0])
      | succ kj3 =>
        have H := HA.out
        clear HA
        simp only [laws_FnCellOk.j0] at H
        have HC27 := Aside0.mk H
        clear H
        go_upto_region 5 with (fail)
        go_cut [4] (fun v4 wc => ∃ (kq : Nat) (x4_26 : Bool), v4 = .bool x4_26 ∧ Aside0 (laws_FnCellOk.j1 kq x4_26 t473 t474 t475 t476 t477 t478 t479 t480 t481 t482 t483 = some r) ∧ Aside0 (kq ≤ kj3) ∧ Aside0 (wc.heap[gb484]? = some (.cells #[.string t473, .int .i64 t474, .int .i64 t475, .int .i64 t476, .int .i64 t477, .int .i64 t478, .int .i64 t479, .int .i64 t480, .int .i64 t481, .int .i64 t482, .int .i64 t483] 38 (0, 0))) ∧ Aside0 (Below w.heap.size w wc))
        case first =>
          have H := HC27.out
          clear HC27
          by_cases c28 : x4_3 = true
          · subst c28
            have H1 : ((impl_BrdOk.f t476 t477).bind fun t486 => (if t486 = true then ((impl_BrdOk.f t478 t479).bind fun t487 => (if t487 = true then ((impl_BrdOk.f t480 t481).bind fun t488 => (if t488 = true then ((impl_BrdOk.f t482 t483).bind fun t489 => (laws_FnCellOk.j1 kj3 t489 t473 t474 t475 t476 t477 t478 t479 t480 t481 t482 t483)) else (laws_FnCellOk.j1 kj3 false t473 t474 t475 t476 t477 t478 t479 t480 t481 t482 t483))) else (laws_FnCellOk.j1 kj3 false t473 t474 t475 t476 t477 t478 t479 t480 t481 t482 t483))) else (laws_FnCellOk.j1 kj3 false t473 t474 t475 t476 t477 t478 t479 t480 t481 t482 t483))) = some r := by rw [if_pos rfl] at H; exact H
            clear H
            have H := H1
            clear H1
            replace H := Option.bind_eq_some_iff.mp H
            obtain ⟨t486, A290, H⟩ := H
            replace H : (if t486 = true then ((impl_BrdOk.f t478 t479).bind fun t487 => (if t487 = true then ((impl_BrdOk.f t480 t481).bind fun t488 => (if t488 = true then ((impl_BrdOk.f t482 t483).bind fun t489 => (laws_FnCellOk.j1 kj3 t489 t473 t474 t475 t476 t477 t478 t479 t480 t481 t482 t483)) else (laws_FnCellOk.j1 kj3 false t473 t474 t475 t476 t477 t478 t479 t480 t481 t482 t483))) else (laws_FnCellOk.j1 kj3 false t473 t474 t475 t476 t477 t478 t479 t480 t481 t482 t483))) else (laws_FnCellOk.j1 kj3 false t473 t474 t475 t476 t477 t478 t479 t480 t481 t482 t483)) = some r := H
            have A29 := Aside0.mk A290
            clear A290
            by_cases c30 : t486 = true
            · subst c30
              have H1 : ((impl_BrdOk.f t478 t479).bind fun t487 => (if t487 = true then ((impl_BrdOk.f t480 t481).bind fun t488 => (if t488 = true then ((impl_BrdOk.f t482 t483).bind fun t489 => (laws_FnCellOk.j1 kj3 t489 t473 t474 t475 t476 t477 t478 t479 t480 t481 t482 t483)) else (laws_FnCellOk.j1 kj3 false t473 t474 t475 t476 t477 t478 t479 t480 t481 t482 t483))) else (laws_FnCellOk.j1 kj3 false t473 t474 t475 t476 t477 t478 t479 t480 t481 t482 t483))) = some r := by rw [if_pos rfl] at H; exact H
              clear H
              have H := H1
              clear H1
              replace H := Option.bind_eq_some_iff.mp H
              obtain ⟨t487, A310, H⟩ := H
              replace H : (if t487 = true then ((impl_BrdOk.f t480 t481).bind fun t488 => (if t488 = true then ((impl_BrdOk.f t482 t483).bind fun t489 => (laws_FnCellOk.j1 kj3 t489 t473 t474 t475 t476 t477 t478 t479 t480 t481 t482 t483)) else (laws_FnCellOk.j1 kj3 false t473 t474 t475 t476 t477 t478 t479 t480 t481 t482 t483))) else (laws_FnCellOk.j1 kj3 false t473 t474 t475 t476 t477 t478 t479 t480 t481 t482 t483)) = some r := H
              have A31 := Aside0.mk A310
              clear A310
              by_cases c32 : t487 = true
              · subst c32
                have H1 : ((impl_BrdOk.f t480 t481).bind fun t488 => (if t488 = true then ((impl_BrdOk.f t482 t483).bind fun t489 => (laws_FnCellOk.j1 kj3 t489 t473 t474 t475 t476 t477 t478 t479 t480 t481 t482 t483)) else (laws_FnCellOk.j1 kj3 false t473 t474 t475 t476 t477 t478 t479 t480 t481 t482 t483))) = some r := by rw [if_pos rfl] at H; exact H
                clear H
                have H := H1
                clear H1
                replace H := Option.bind_eq_some_iff.mp H
                obtain ⟨t488, A330, H⟩ := H
                replace H : (if t488 = true then ((impl_BrdOk.f t482 t483).bind fun t489 => (laws_FnCellOk.j1 kj3 t489 t473 t474 t475 t476 t477 t478 t479 t480 t481 t482 t483)) else (laws_FnCellOk.j1 kj3 false t473 t474 t475 t476 t477 t478 t479 t480 t481 t482 t483)) = some r := H
                have A33 := Aside0.mk A330
                clear A330
                by_cases c34 : t488 = true
                · subst c34
                  have H1 : ((impl_BrdOk.f t482 t483).bind fun t489 => (laws_FnCellOk.j1 kj3 t489 t473 t474 t475 t476 t477 t478 t479 t480 t481 t482 t483)) = some r := by rw [if_pos rfl] at H; exact H
                  clear H
                  have H := H1
                  clear H1
                  replace H := Option.bind_eq_some_iff.mp H
                  obtain ⟨t489, A350, H⟩ := H
                  replace H : (laws_FnCellOk.j1 kj3 t489 t473 t474 t475 t476 t477 t478 t479 t480 t481 t482 t483) = some r := H
                  have A35 := Aside0.mk A350
                  clear A350
                  have H' := Aside0.mk H
                  clear H
                  have hcz36_0 : wc.cell? ⟨gb484, 0, none⟩ = some (.string t473) := (blk_cell BK484.out 0).trans rfl
                  have hcz36_1 : wc.cell? ⟨gb484, 1, none⟩ = some (.int .i64 t474) := (blk_cell BK484.out 1).trans rfl
                  have hcz36_2 : wc.cell? ⟨gb484, 2, none⟩ = some (.int .i64 t475) := (blk_cell BK484.out 2).trans rfl
                  have hcz36_3 : wc.cell? ⟨gb484, 3, none⟩ = some (.int .i64 t476) := (blk_cell BK484.out 3).trans rfl
                  have hcz36_4 : wc.cell? ⟨gb484, 4, none⟩ = some (.int .i64 t477) := (blk_cell BK484.out 4).trans rfl
                  have hcz36_5 : wc.cell? ⟨gb484, 5, none⟩ = some (.int .i64 t478) := (blk_cell BK484.out 5).trans rfl
                  have hcz36_6 : wc.cell? ⟨gb484, 6, none⟩ = some (.int .i64 t479) := (blk_cell BK484.out 6).trans rfl
                  have hcz36_7 : wc.cell? ⟨gb484, 7, none⟩ = some (.int .i64 t480) := (blk_cell BK484.out 7).trans rfl
                  have hcz36_8 : wc.cell? ⟨gb484, 8, none⟩ = some (.int .i64 t481) := (blk_cell BK484.out 8).trans rfl
                  have hcz36_9 : wc.cell? ⟨gb484, 9, none⟩ = some (.int .i64 t482) := (blk_cell BK484.out 9).trans rfl
                  have hcz36_10 : wc.cell? ⟨gb484, 10, none⟩ = some (.int .i64 t483) := (blk_cell BK484.out 10).trans rfl
                  have hfz36_0 := blk_frozen BK484.out 0
                  have hfz36_1 := blk_frozen BK484.out 1
                  have hfz36_2 := blk_frozen BK484.out 2
                  have hfz36_3 := blk_frozen BK484.out 3
                  have hfz36_4 := blk_frozen BK484.out 4
                  have hfz36_5 := blk_frozen BK484.out 5
                  have hfz36_6 := blk_frozen BK484.out 6
                  have hfz36_7 := blk_frozen BK484.out 7
                  have hfz36_8 := blk_frozen BK484.out 8
                  have hfz36_9 := blk_frozen BK484.out 9
                  have hfz36_10 := blk_frozen BK484.out 10
                  go_wp2_with (first | (go_at_call 29; (with_reducible refine (impl_BrdOk.calls t476 t477 true _ A29.out).mono ?_); rintro e w37 ⟨rfl, hb⟩; have n0_ := Aside0.mk (blk_below (g := gb484) (o := .cells #[.string t473, .int .i64 t474, .int .i64 t475, .int .i64 t476, .int .i64 t477, .int .i64 t478, .int .i64 t479, .int .i64 t480, .int .i64 t481, .int .i64 t482, .int .i64 t483] 38 (0, 0)) (by (with_reducible repeat (first | refine blk_drewN ?_ _ | refine blk_drew ?_ | refine blk_alloc ?_ _)); exact BK484.out) hb); have n1_ := Aside0.mk (below_step (by repeat (first | (with_reducible first | exact HB.out | apply below_alloc | apply pw_below_drewN | apply below_drew1 | refine below_set ?_ GE484.out) | exact HB.out)) hb); clear BK484; clear HB; have BK484 := n0_; have HB := n1_; clear n0_ n1_; (try clear hb); (try clear hb2); (try clear hk); (try clear hi); have hcz38_0 : w37.cell? ⟨gb484, 0, none⟩ = some (.string t473) := (blk_cell BK484.out 0).trans rfl; have hcz38_1 : w37.cell? ⟨gb484, 1, none⟩ = some (.int .i64 t474) := (blk_cell BK484.out 1).trans rfl; have hcz38_2 : w37.cell? ⟨gb484, 2, none⟩ = some (.int .i64 t475) := (blk_cell BK484.out 2).trans rfl; have hcz38_3 : w37.cell? ⟨gb484, 3, none⟩ = some (.int .i64 t476) := (blk_cell BK484.out 3).trans rfl; have hcz38_4 : w37.cell? ⟨gb484, 4, none⟩ = some (.int .i64 t477) := (blk_cell BK484.out 4).trans rfl; have hcz38_5 : w37.cell? ⟨gb484, 5, none⟩ = some (.int .i64 t478) := (blk_cell BK484.out 5).trans rfl; have hcz38_6 : w37.cell? ⟨gb484, 6, none⟩ = some (.int .i64 t479) := (blk_cell BK484.out 6).trans rfl; have hcz38_7 : w37.cell? ⟨gb484, 7, none⟩ = some (.int .i64 t480) := (blk_cell BK484.out 7).trans rfl; have hcz38_8 : w37.cell? ⟨gb484, 8, none⟩ = some (.int .i64 t481) := (blk_cell BK484.out 8).trans rfl; have hcz38_9 : w37.cell? ⟨gb484, 9, none⟩ = some (.int .i64 t482) := (blk_cell BK484.out 9).trans rfl; have hcz38_10 : w37.cell? ⟨gb484, 10, none⟩ = some (.int .i64 t483) := (blk_cell BK484.out 10).trans rfl; have hfz38_0 := blk_frozen BK484.out 0; have hfz38_1 := blk_frozen BK484.out 1; have hfz38_2 := blk_frozen BK484.out 2; have hfz38_3 := blk_frozen BK484.out 3; have hfz38_4 := blk_frozen BK484.out 4; have hfz38_5 := blk_frozen BK484.out 5; have hfz38_6 := blk_frozen BK484.out 6; have hfz38_7 := blk_frozen BK484.out 7; have hfz38_8 := blk_frozen BK484.out 8; have hfz38_9 := blk_frozen BK484.out 9; have hfz38_10 := blk_frozen BK484.out 10) | (go_at_call 29; (with_reducible refine (impl_BrdOk.calls t478 t479 true _ A31.out).mono ?_); rintro e w39 ⟨rfl, hb⟩; have n0_ := Aside0.mk (blk_below (g := gb484) (o := .cells #[.string t473, .int .i64 t474, .int .i64 t475, .int .i64 t476, .int .i64 t477, .int .i64 t478, .int .i64 t479, .int .i64 t480, .int .i64 t481, .int .i64 t482, .int .i64 t483] 38 (0, 0)) (by (with_reducible repeat (first | refine blk_drewN ?_ _ | refine blk_drew ?_ | refine blk_alloc ?_ _)); exact BK484.out) hb); have n1_ := Aside0.mk (below_step (by repeat (first | (with_reducible first | exact HB.out | apply below_alloc | apply pw_below_drewN | apply below_drew1 | refine below_set ?_ GE484.out) | exact HB.out)) hb); clear BK484; clear HB; have BK484 := n0_; have HB := n1_; clear n0_ n1_; (try clear hb); (try clear hb2); (try clear hk); (try clear hi); have hcz40_0 : w39.cell? ⟨gb484, 0, none⟩ = some (.string t473) := (blk_cell BK484.out 0).trans rfl; have hcz40_1 : w39.cell? ⟨gb484, 1, none⟩ = some (.int .i64 t474) := (blk_cell BK484.out 1).trans rfl; have hcz40_2 : w39.cell? ⟨gb484, 2, none⟩ = some (.int .i64 t475) := (blk_cell BK484.out 2).trans rfl; have hcz40_3 : w39.cell? ⟨gb484, 3, none⟩ = some (.int .i64 t476) := (blk_cell BK484.out 3).trans rfl; have hcz40_4 : w39.cell? ⟨gb484, 4, none⟩ = some (.int .i64 t477) := (blk_cell BK484.out 4).trans rfl; have hcz40_5 : w39.cell? ⟨gb484, 5, none⟩ = some (.int .i64 t478) := (blk_cell BK484.out 5).trans rfl; have hcz40_6 : w39.cell? ⟨gb484, 6, none⟩ = some (.int .i64 t479) := (blk_cell BK484.out 6).trans rfl; have hcz40_7 : w39.cell? ⟨gb484, 7, none⟩ = some (.int .i64 t480) := (blk_cell BK484.out 7).trans rfl; have hcz40_8 : w39.cell? ⟨gb484, 8, none⟩ = some (.int .i64 t481) := (blk_cell BK484.out 8).trans rfl; have hcz40_9 : w39.cell? ⟨gb484, 9, none⟩ = some (.int .i64 t482) := (blk_cell BK484.out 9).trans rfl; have hcz40_10 : w39.cell? ⟨gb484, 10, none⟩ = some (.int .i64 t483) := (blk_cell BK484.out 10).trans rfl; have hfz40_0 := blk_frozen BK484.out 0; have hfz40_1 := blk_frozen BK484.out 1; have hfz40_2 := blk_frozen BK484.out 2; have hfz40_3 := blk_frozen BK484.out 3; have hfz40_4 := blk_frozen BK484.out 4; have hfz40_5 := blk_frozen BK484.out 5; have hfz40_6 := blk_frozen BK484.out 6; have hfz40_7 := blk_frozen BK484.out 7; have hfz40_8 := blk_frozen BK484.out 8; have hfz40_9 := blk_frozen BK484.out 9; have hfz40_10 := blk_frozen BK484.out 10) | (go_at_call 29; (with_reducible refine (impl_BrdOk.calls t480 t481 true _ A33.out).mono ?_); rintro e w41 ⟨rfl, hb⟩; have n0_ := Aside0.mk (blk_below (g := gb484) (o := .cells #[.string t473, .int .i64 t474, .int .i64 t475, .int .i64 t476, .int .i64 t477, .int .i64 t478, .int .i64 t479, .int .i64 t480, .int .i64 t481, .int .i64 t482, .int .i64 t483] 38 (0, 0)) (by (with_reducible repeat (first | refine blk_drewN ?_ _ | refine blk_drew ?_ | refine blk_alloc ?_ _)); exact BK484.out) hb); have n1_ := Aside0.mk (below_step (by repeat (first | (with_reducible first | exact HB.out | apply below_alloc | apply pw_below_drewN | apply below_drew1 | refine below_set ?_ GE484.out) | exact HB.out)) hb); clear BK484; clear HB; have BK484 := n0_; have HB := n1_; clear n0_ n1_; (try clear hb); (try clear hb2); (try clear hk); (try clear hi); have hcz42_0 : w41.cell? ⟨gb484, 0, none⟩ = some (.string t473) := (blk_cell BK484.out 0).trans rfl; have hcz42_1 : w41.cell? ⟨gb484, 1, none⟩ = some (.int .i64 t474) := (blk_cell BK484.out 1).trans rfl; have hcz42_2 : w41.cell? ⟨gb484, 2, none⟩ = some (.int .i64 t475) := (blk_cell BK484.out 2).trans rfl; have hcz42_3 : w41.cell? ⟨gb484, 3, none⟩ = some (.int .i64 t476) := (blk_cell BK484.out 3).trans rfl; have hcz42_4 : w41.cell? ⟨gb484, 4, none⟩ = some (.int .i64 t477) := (blk_cell BK484.out 4).trans rfl; have hcz42_5 : w41.cell? ⟨gb484, 5, none⟩ = some (.int .i64 t478) := (blk_cell BK484.out 5).trans rfl; have hcz42_6 : w41.cell? ⟨gb484, 6, none⟩ = some (.int .i64 t479) := (blk_cell BK484.out 6).trans rfl; have hcz42_7 : w41.cell? ⟨gb484, 7, none⟩ = some (.int .i64 t480) := (blk_cell BK484.out 7).trans rfl; have hcz42_8 : w41.cell? ⟨gb484, 8, none⟩ = some (.int .i64 t481) := (blk_cell BK484.out 8).trans rfl; have hcz42_9 : w41.cell? ⟨gb484, 9, none⟩ = some (.int .i64 t482) := (blk_cell BK484.out 9).trans rfl; have hcz42_10 : w41.cell? ⟨gb484, 10, none⟩ = some (.int .i64 t483) := (blk_cell BK484.out 10).trans rfl; have hfz42_0 := blk_frozen BK484.out 0; have hfz42_1 := blk_frozen BK484.out 1; have hfz42_2 := blk_frozen BK484.out 2; have hfz42_3 := blk_frozen BK484.out 3; have hfz42_4 := blk_frozen BK484.out 4; have hfz42_5 := blk_frozen BK484.out 5; have hfz42_6 := blk_frozen BK484.out 6; have hfz42_7 := blk_frozen BK484.out 7; have hfz42_8 := blk_frozen BK484.out 8; have hfz42_9 := blk_frozen BK484.out 9; have hfz42_10 := blk_frozen BK484.out 10) | (go_at_call 29; (with_reducible refine (impl_BrdOk.calls t482 t483 t489 _ A35.out).mono ?_); rintro e w43 ⟨rfl, hb⟩; have n0_ := Aside0.mk (blk_below (g := gb484) (o := .cells #[.string t473, .int .i64 t474, .int .i64 t475, .int .i64 t476, .int .i64 t477, .int .i64 t478, .int .i64 t479, .int .i64 t480, .int .i64 t481, .int .i64 t482, .int .i64 t483] 38 (0, 0)) (by (with_reducible repeat (first | refine blk_drewN ?_ _ | refine blk_drew ?_ | refine blk_alloc ?_ _)); exact BK484.out) hb); have n1_ := Aside0.mk (below_step (by repeat (first | (with_reducible first | exact HB.out | apply below_alloc | apply pw_below_drewN | apply below_drew1 | refine below_set ?_ GE484.out) | exact HB.out)) hb); clear BK484; clear HB; have BK484 := n0_; have HB := n1_; clear n0_ n1_; (try clear hb); (try clear hb2); (try clear hk); (try clear hi)))
                  go_meet
                  case rel => exact ⟨_, (t489), (by first | rfl | (simp; done) | (simp [*]; done)), H', ⟨by have := HJ3.out; first | omega | exact Nat.le_refl _⟩, ⟨by (with_reducible repeat (first | refine blk_drewN ?_ _ | refine blk_drew ?_ | refine blk_alloc ?_ _)); exact BK484.out⟩, ⟨by repeat (first | (with_reducible first | exact HB.out | apply below_alloc | apply pw_below_drewN | apply below_drew1 | refine below_set ?_ GE484.out) | exact HB.out)⟩⟩
                · replace c34 := Bool.eq_false_iff.mpr c34
                  subst c34
                  have H1 : (laws_FnCellOk.j1 kj3 false t473 t474 t475 t476 t477 t478 t479 t480 t481 t482 t483) = some r := by rw [if_neg (show ¬ (false = true) by decide)] at H; exact H
                  clear H
                  have H := H1
                  clear H1
                  have H' := Aside0.mk H
                  clear H
                  have hcz44_0 : wc.cell? ⟨gb484, 0, none⟩ = some (.string t473) := (blk_cell BK484.out 0).trans rfl
                  have hcz44_1 : wc.cell? ⟨gb484, 1, none⟩ = some (.int .i64 t474) := (blk_cell BK484.out 1).trans rfl
                  have hcz44_2 : wc.cell? ⟨gb484, 2, none⟩ = some (.int .i64 t475) := (blk_cell BK484.out 2).trans rfl
                  have hcz44_3 : wc.cell? ⟨gb484, 3, none⟩ = some (.int .i64 t476) := (blk_cell BK484.out 3).trans rfl
                  have hcz44_4 : wc.cell? ⟨gb484, 4, none⟩ = some (.int .i64 t477) := (blk_cell BK484.out 4).trans rfl
                  have hcz44_5 : wc.cell? ⟨gb484, 5, none⟩ = some (.int .i64 t478) := (blk_cell BK484.out 5).trans rfl
                  have hcz44_6 : wc.cell? ⟨gb484, 6, none⟩ = some (.int .i64 t479) := (blk_cell BK484.out 6).trans rfl
                  have hcz44_7 : wc.cell? ⟨gb484, 7, none⟩ = some (.int .i64 t480) := (blk_cell BK484.out 7).trans rfl
                  have hcz44_8 : wc.cell? ⟨gb484, 8, none⟩ = some (.int .i64 t481) := (blk_cell BK484.out 8).trans rfl
                  have hcz44_9 : wc.cell? ⟨gb484, 9, none⟩ = some (.int .i64 t482) := (blk_cell BK484.out 9).trans rfl
                  have hcz44_10 : wc.cell? ⟨gb484, 10, none⟩ = some (.int .i64 t483) := (blk_cell BK484.out 10).trans rfl
                  have hfz44_0 := blk_frozen BK484.out 0
                  have hfz44_1 := blk_frozen BK484.out 1
                  have hfz44_2 := blk_frozen BK484.out 2
                  have hfz44_3 := blk_frozen BK484.out 3
                  have hfz44_4 := blk_frozen BK484.out 4
                  have hfz44_5 := blk_frozen BK484.out 5
                  have hfz44_6 := blk_frozen BK484.out 6
                  have hfz44_7 := blk_frozen BK484.out 7
                  have hfz44_8 := blk_frozen BK484.out 8
                  have hfz44_9 := blk_frozen BK484.out 9
                  have hfz44_10 := blk_frozen BK484.out 10
                  go_wp2_with (first | (go_at_call 29; (with_reducible refine (impl_BrdOk.calls t476 t477 true _ A29.out).mono ?_); rintro e w45 ⟨rfl, hb⟩; have n0_ := Aside0.mk (blk_below (g := gb484) (o := .cells #[.string t473, .int .i64 t474, .int .i64 t475, .int .i64 t476, .int .i64 t477, .int .i64 t478, .int .i64 t479, .int .i64 t480, .int .i64 t481, .int .i64 t482, .int .i64 t483] 38 (0, 0)) (by (with_reducible repeat (first | refine blk_drewN ?_ _ | refine blk_drew ?_ | refine blk_alloc ?_ _)); exact BK484.out) hb); have n1_ := Aside0.mk (below_step (by repeat (first | (with_reducible first | exact HB.out | apply below_alloc | apply pw_below_drewN | apply below_drew1 | refine below_set ?_ GE484.out) | exact HB.out)) hb); clear BK484; clear HB; have BK484 := n0_; have HB := n1_; clear n0_ n1_; (try clear hb); (try clear hb2); (try clear hk); (try clear hi); have hcz46_0 : w45.cell? ⟨gb484, 0, none⟩ = some (.string t473) := (blk_cell BK484.out 0).trans rfl; have hcz46_1 : w45.cell? ⟨gb484, 1, none⟩ = some (.int .i64 t474) := (blk_cell BK484.out 1).trans rfl; have hcz46_2 : w45.cell? ⟨gb484, 2, none⟩ = some (.int .i64 t475) := (blk_cell BK484.out 2).trans rfl; have hcz46_3 : w45.cell? ⟨gb484, 3, none⟩ = some (.int .i64 t476) := (blk_cell BK484.out 3).trans rfl; have hcz46_4 : w45.cell? ⟨gb484, 4, none⟩ = some (.int .i64 t477) := (blk_cell BK484.out 4).trans rfl; have hcz46_5 : w45.cell? ⟨gb484, 5, none⟩ = some (.int .i64 t478) := (blk_cell BK484.out 5).trans rfl; have hcz46_6 : w45.cell? ⟨gb484, 6, none⟩ = some (.int .i64 t479) := (blk_cell BK484.out 6).trans rfl; have hcz46_7 : w45.cell? ⟨gb484, 7, none⟩ = some (.int .i64 t480) := (blk_cell BK484.out 7).trans rfl; have hcz46_8 : w45.cell? ⟨gb484, 8, none⟩ = some (.int .i64 t481) := (blk_cell BK484.out 8).trans rfl; have hcz46_9 : w45.cell? ⟨gb484, 9, none⟩ = some (.int .i64 t482) := (blk_cell BK484.out 9).trans rfl; have hcz46_10 : w45.cell? ⟨gb484, 10, none⟩ = some (.int .i64 t483) := (blk_cell BK484.out 10).trans rfl; have hfz46_0 := blk_frozen BK484.out 0; have hfz46_1 := blk_frozen BK484.out 1; have hfz46_2 := blk_frozen BK484.out 2; have hfz46_3 := blk_frozen BK484.out 3; have hfz46_4 := blk_frozen BK484.out 4; have hfz46_5 := blk_frozen BK484.out 5; have hfz46_6 := blk_frozen BK484.out 6; have hfz46_7 := blk_frozen BK484.out 7; have hfz46_8 := blk_frozen BK484.out 8; have hfz46_9 := blk_frozen BK484.out 9; have hfz46_10 := blk_frozen BK484.out 10) | (go_at_call 29; (with_reducible refine (impl_BrdOk.calls t478 t479 true _ A31.out).mono ?_); rintro e w47 ⟨rfl, hb⟩; have n0_ := Aside0.mk (blk_below (g := gb484) (o := .cells #[.string t473, .int .i64 t474, .int .i64 t475, .int .i64 t476, .int .i64 t477, .int .i64 t478, .int .i64 t479, .int .i64 t480, .int .i64 t481, .int .i64 t482, .int .i64 t483] 38 (0, 0)) (by (with_reducible repeat (first | refine blk_drewN ?_ _ | refine blk_drew ?_ | refine blk_alloc ?_ _)); exact BK484.out) hb); have n1_ := Aside0.mk (below_step (by repeat (first | (with_reducible first | exact HB.out | apply below_alloc | apply pw_below_drewN | apply below_drew1 | refine below_set ?_ GE484.out) | exact HB.out)) hb); clear BK484; clear HB; have BK484 := n0_; have HB := n1_; clear n0_ n1_; (try clear hb); (try clear hb2); (try clear hk); (try clear hi); have hcz48_0 : w47.cell? ⟨gb484, 0, none⟩ = some (.string t473) := (blk_cell BK484.out 0).trans rfl; have hcz48_1 : w47.cell? ⟨gb484, 1, none⟩ = some (.int .i64 t474) := (blk_cell BK484.out 1).trans rfl; have hcz48_2 : w47.cell? ⟨gb484, 2, none⟩ = some (.int .i64 t475) := (blk_cell BK484.out 2).trans rfl; have hcz48_3 : w47.cell? ⟨gb484, 3, none⟩ = some (.int .i64 t476) := (blk_cell BK484.out 3).trans rfl; have hcz48_4 : w47.cell? ⟨gb484, 4, none⟩ = some (.int .i64 t477) := (blk_cell BK484.out 4).trans rfl; have hcz48_5 : w47.cell? ⟨gb484, 5, none⟩ = some (.int .i64 t478) := (blk_cell BK484.out 5).trans rfl; have hcz48_6 : w47.cell? ⟨gb484, 6, none⟩ = some (.int .i64 t479) := (blk_cell BK484.out 6).trans rfl; have hcz48_7 : w47.cell? ⟨gb484, 7, none⟩ = some (.int .i64 t480) := (blk_cell BK484.out 7).trans rfl; have hcz48_8 : w47.cell? ⟨gb484, 8, none⟩ = some (.int .i64 t481) := (blk_cell BK484.out 8).trans rfl; have hcz48_9 : w47.cell? ⟨gb484, 9, none⟩ = some (.int .i64 t482) := (blk_cell BK484.out 9).trans rfl; have hcz48_10 : w47.cell? ⟨gb484, 10, none⟩ = some (.int .i64 t483) := (blk_cell BK484.out 10).trans rfl; have hfz48_0 := blk_frozen BK484.out 0; have hfz48_1 := blk_frozen BK484.out 1; have hfz48_2 := blk_frozen BK484.out 2; have hfz48_3 := blk_frozen BK484.out 3; have hfz48_4 := blk_frozen BK484.out 4; have hfz48_5 := blk_frozen BK484.out 5; have hfz48_6 := blk_frozen BK484.out 6; have hfz48_7 := blk_frozen BK484.out 7; have hfz48_8 := blk_frozen BK484.out 8; have hfz48_9 := blk_frozen BK484.out 9; have hfz48_10 := blk_frozen BK484.out 10) | (go_at_call 29; (with_reducible refine (impl_BrdOk.calls t480 t481 false _ A33.out).mono ?_); rintro e w49 ⟨rfl, hb⟩; have n0_ := Aside0.mk (blk_below (g := gb484) (o := .cells #[.string t473, .int .i64 t474, .int .i64 t475, .int .i64 t476, .int .i64 t477, .int .i64 t478, .int .i64 t479, .int .i64 t480, .int .i64 t481, .int .i64 t482, .int .i64 t483] 38 (0, 0)) (by (with_reducible repeat (first | refine blk_drewN ?_ _ | refine blk_drew ?_ | refine blk_alloc ?_ _)); exact BK484.out) hb); have n1_ := Aside0.mk (below_step (by repeat (first | (with_reducible first | exact HB.out | apply below_alloc | apply pw_below_drewN | apply below_drew1 | refine below_set ?_ GE484.out) | exact HB.out)) hb); clear BK484; clear HB; have BK484 := n0_; have HB := n1_; clear n0_ n1_; (try clear hb); (try clear hb2); (try clear hk); (try clear hi)))
                  go_meet
                  case rel => exact ⟨_, (false), (by first | rfl | (simp; done) | (simp [*]; done)), H', ⟨by have := HJ3.out; first | omega | exact Nat.le_refl _⟩, ⟨by (with_reducible repeat (first | refine blk_drewN ?_ _ | refine blk_drew ?_ | refine blk_alloc ?_ _)); exact BK484.out⟩, ⟨by repeat (first | (with_reducible first | exact HB.out | apply below_alloc | apply pw_below_drewN | apply below_drew1 | refine below_set ?_ GE484.out) | exact HB.out)⟩⟩
              · replace c32 := Bool.eq_false_iff.mpr c32
                subst c32
                have H1 : (laws_FnCellOk.j1 kj3 false t473 t474 t475 t476 t477 t478 t479 t480 t481 t482 t483) = some r := by rw [if_neg (show ¬ (false = true) by decide)] at H; exact H
                clear H
                have H := H1
                clear H1
                have H' := Aside0.mk H
                clear H
                have hcz50_0 : wc.cell? ⟨gb484, 0, none⟩ = some (.string t473) := (blk_cell BK484.out 0).trans rfl
                have hcz50_1 : wc.cell? ⟨gb484, 1, none⟩ = some (.int .i64 t474) := (blk_cell BK484.out 1).trans rfl
                have hcz50_2 : wc.cell? ⟨gb484, 2, none⟩ = some (.int .i64 t475) := (blk_cell BK484.out 2).trans rfl
                have hcz50_3 : wc.cell? ⟨gb484, 3, none⟩ = some (.int .i64 t476) := (blk_cell BK484.out 3).trans rfl
                have hcz50_4 : wc.cell? ⟨gb484, 4, none⟩ = some (.int .i64 t477) := (blk_cell BK484.out 4).trans rfl
                have hcz50_5 : wc.cell? ⟨gb484, 5, none⟩ = some (.int .i64 t478) := (blk_cell BK484.out 5).trans rfl
                have hcz50_6 : wc.cell? ⟨gb484, 6, none⟩ = some (.int .i64 t479) := (blk_cell BK484.out 6).trans rfl
                have hcz50_7 : wc.cell? ⟨gb484, 7, none⟩ = some (.int .i64 t480) := (blk_cell BK484.out 7).trans rfl
                have hcz50_8 : wc.cell? ⟨gb484, 8, none⟩ = some (.int .i64 t481) := (blk_cell BK484.out 8).trans rfl
                have hcz50_9 : wc.cell? ⟨gb484, 9, none⟩ = some (.int .i64 t482) := (blk_cell BK484.out 9).trans rfl
                have hcz50_10 : wc.cell? ⟨gb484, 10, none⟩ = some (.int .i64 t483) := (blk_cell BK484.out 10).trans rfl
                have hfz50_0 := blk_frozen BK484.out 0
                have hfz50_1 := blk_frozen BK484.out 1
                have hfz50_2 := blk_frozen BK484.out 2
                have hfz50_3 := blk_frozen BK484.out 3
                have hfz50_4 := blk_frozen BK484.out 4
                have hfz50_5 := blk_frozen BK484.out 5
                have hfz50_6 := blk_frozen BK484.out 6
                have hfz50_7 := blk_frozen BK484.out 7
                have hfz50_8 := blk_frozen BK484.out 8
                have hfz50_9 := blk_frozen BK484.out 9
                have hfz50_10 := blk_frozen BK484.out 10
                go_wp2_with (first | (go_at_call 29; (with_reducible refine (impl_BrdOk.calls t476 t477 true _ A29.out).mono ?_); rintro e w51 ⟨rfl, hb⟩; have n0_ := Aside0.mk (blk_below (g := gb484) (o := .cells #[.string t473, .int .i64 t474, .int .i64 t475, .int .i64 t476, .int .i64 t477, .int .i64 t478, .int .i64 t479, .int .i64 t480, .int .i64 t481, .int .i64 t482, .int .i64 t483] 38 (0, 0)) (by (with_reducible repeat (first | refine blk_drewN ?_ _ | refine blk_drew ?_ | refine blk_alloc ?_ _)); exact BK484.out) hb); have n1_ := Aside0.mk (below_step (by repeat (first | (with_reducible first | exact HB.out | apply below_alloc | apply pw_below_drewN | apply below_drew1 | refine below_set ?_ GE484.out) | exact HB.out)) hb); clear BK484; clear HB; have BK484 := n0_; have HB := n1_; clear n0_ n1_; (try clear hb); (try clear hb2); (try clear hk); (try clear hi); have hcz52_0 : w51.cell? ⟨gb484, 0, none⟩ = some (.string t473) := (blk_cell BK484.out 0).trans rfl; have hcz52_1 : w51.cell? ⟨gb484, 1, none⟩ = some (.int .i64 t474) := (blk_cell BK484.out 1).trans rfl; have hcz52_2 : w51.cell? ⟨gb484, 2, none⟩ = some (.int .i64 t475) := (blk_cell BK484.out 2).trans rfl; have hcz52_3 : w51.cell? ⟨gb484, 3, none⟩ = some (.int .i64 t476) := (blk_cell BK484.out 3).trans rfl; have hcz52_4 : w51.cell? ⟨gb484, 4, none⟩ = some (.int .i64 t477) := (blk_cell BK484.out 4).trans rfl; have hcz52_5 : w51.cell? ⟨gb484, 5, none⟩ = some (.int .i64 t478) := (blk_cell BK484.out 5).trans rfl; have hcz52_6 : w51.cell? ⟨gb484, 6, none⟩ = some (.int .i64 t479) := (blk_cell BK484.out 6).trans rfl; have hcz52_7 : w51.cell? ⟨gb484, 7, none⟩ = some (.int .i64 t480) := (blk_cell BK484.out 7).trans rfl; have hcz52_8 : w51.cell? ⟨gb484, 8, none⟩ = some (.int .i64 t481) := (blk_cell BK484.out 8).trans rfl; have hcz52_9 : w51.cell? ⟨gb484, 9, none⟩ = some (.int .i64 t482) := (blk_cell BK484.out 9).trans rfl; have hcz52_10 : w51.cell? ⟨gb484, 10, none⟩ = some (.int .i64 t483) := (blk_cell BK484.out 10).trans rfl; have hfz52_0 := blk_frozen BK484.out 0; have hfz52_1 := blk_frozen BK484.out 1; have hfz52_2 := blk_frozen BK484.out 2; have hfz52_3 := blk_frozen BK484.out 3; have hfz52_4 := blk_frozen BK484.out 4; have hfz52_5 := blk_frozen BK484.out 5; have hfz52_6 := blk_frozen BK484.out 6; have hfz52_7 := blk_frozen BK484.out 7; have hfz52_8 := blk_frozen BK484.out 8; have hfz52_9 := blk_frozen BK484.out 9; have hfz52_10 := blk_frozen BK484.out 10) | (go_at_call 29; (with_reducible refine (impl_BrdOk.calls t478 t479 false _ A31.out).mono ?_); rintro e w53 ⟨rfl, hb⟩; have n0_ := Aside0.mk (blk_below (g := gb484) (o := .cells #[.string t473, .int .i64 t474, .int .i64 t475, .int .i64 t476, .int .i64 t477, .int .i64 t478, .int .i64 t479, .int .i64 t480, .int .i64 t481, .int .i64 t482, .int .i64 t483] 38 (0, 0)) (by (with_reducible repeat (first | refine blk_drewN ?_ _ | refine blk_drew ?_ | refine blk_alloc ?_ _)); exact BK484.out) hb); have n1_ := Aside0.mk (below_step (by repeat (first | (with_reducible first | exact HB.out | apply below_alloc | apply pw_below_drewN | apply below_drew1 | refine below_set ?_ GE484.out) | exact HB.out)) hb); clear BK484; clear HB; have BK484 := n0_; have HB := n1_; clear n0_ n1_; (try clear hb); (try clear hb2); (try clear hk); (try clear hi)))
                go_meet
                case rel => exact ⟨_, (false), (by first | rfl | (simp; done) | (simp [*]; done)), H', ⟨by have := HJ3.out; first | omega | exact Nat.le_refl _⟩, ⟨by (with_reducible repeat (first | refine blk_drewN ?_ _ | refine blk_drew ?_ | refine blk_alloc ?_ _)); exact BK484.out⟩, ⟨by repeat (first | (with_reducible first | exact HB.out | apply below_alloc | apply pw_below_drewN | apply below_drew1 | refine below_set ?_ GE484.out) | exact HB.out)⟩⟩
            · replace c30 := Bool.eq_false_iff.mpr c30
              subst c30
              have H1 : (laws_FnCellOk.j1 kj3 false t473 t474 t475 t476 t477 t478 t479 t480 t481 t482 t483) = some r := by rw [if_neg (show ¬ (false = true) by decide)] at H; exact H
              clear H
              have H := H1
              clear H1
              have H' := Aside0.mk H
              clear H
              have hcz54_0 : wc.cell? ⟨gb484, 0, none⟩ = some (.string t473) := (blk_cell BK484.out 0).trans rfl
              have hcz54_1 : wc.cell? ⟨gb484, 1, none⟩ = some (.int .i64 t474) := (blk_cell BK484.out 1).trans rfl
              have hcz54_2 : wc.cell? ⟨gb484, 2, none⟩ = some (.int .i64 t475) := (blk_cell BK484.out 2).trans rfl
              have hcz54_3 : wc.cell? ⟨gb484, 3, none⟩ = some (.int .i64 t476) := (blk_cell BK484.out 3).trans rfl
              have hcz54_4 : wc.cell? ⟨gb484, 4, none⟩ = some (.int .i64 t477) := (blk_cell BK484.out 4).trans rfl
              have hcz54_5 : wc.cell? ⟨gb484, 5, none⟩ = some (.int .i64 t478) := (blk_cell BK484.out 5).trans rfl
              have hcz54_6 : wc.cell? ⟨gb484, 6, none⟩ = some (.int .i64 t479) := (blk_cell BK484.out 6).trans rfl
              have hcz54_7 : wc.cell? ⟨gb484, 7, none⟩ = some (.int .i64 t480) := (blk_cell BK484.out 7).trans rfl
              have hcz54_8 : wc.cell? ⟨gb484, 8, none⟩ = some (.int .i64 t481) := (blk_cell BK484.out 8).trans rfl
              have hcz54_9 : wc.cell? ⟨gb484, 9, none⟩ = some (.int .i64 t482) := (blk_cell BK484.out 9).trans rfl
              have hcz54_10 : wc.cell? ⟨gb484, 10, none⟩ = some (.int .i64 t483) := (blk_cell BK484.out 10).trans rfl
              have hfz54_0 := blk_frozen BK484.out 0
              have hfz54_1 := blk_frozen BK484.out 1
              have hfz54_2 := blk_frozen BK484.out 2
              have hfz54_3 := blk_frozen BK484.out 3
              have hfz54_4 := blk_frozen BK484.out 4
              have hfz54_5 := blk_frozen BK484.out 5
              have hfz54_6 := blk_frozen BK484.out 6
              have hfz54_7 := blk_frozen BK484.out 7
              have hfz54_8 := blk_frozen BK484.out 8
              have hfz54_9 := blk_frozen BK484.out 9
              have hfz54_10 := blk_frozen BK484.out 10
              go_wp2_with (first | (go_at_call 29; (with_reducible refine (impl_BrdOk.calls t476 t477 false _ A29.out).mono ?_); rintro e w55 ⟨rfl, hb⟩; have n0_ := Aside0.mk (blk_below (g := gb484) (o := .cells #[.string t473, .int .i64 t474, .int .i64 t475, .int .i64 t476, .int .i64 t477, .int .i64 t478, .int .i64 t479, .int .i64 t480, .int .i64 t481, .int .i64 t482, .int .i64 t483] 38 (0, 0)) (by (with_reducible repeat (first | refine blk_drewN ?_ _ | refine blk_drew ?_ | refine blk_alloc ?_ _)); exact BK484.out) hb); have n1_ := Aside0.mk (below_step (by repeat (first | (with_reducible first | exact HB.out | apply below_alloc | apply pw_below_drewN | apply below_drew1 | refine below_set ?_ GE484.out) | exact HB.out)) hb); clear BK484; clear HB; have BK484 := n0_; have HB := n1_; clear n0_ n1_; (try clear hb); (try clear hb2); (try clear hk); (try clear hi)))
              go_meet
              case rel => exact ⟨_, (false), (by first | rfl | (simp; done) | (simp [*]; done)), H', ⟨by have := HJ3.out; first | omega | exact Nat.le_refl _⟩, ⟨by (with_reducible repeat (first | refine blk_drewN ?_ _ | refine blk_drew ?_ | refine blk_alloc ?_ _)); exact BK484.out⟩, ⟨by repeat (first | (with_reducible first | exact HB.out | apply below_alloc | apply pw_below_drewN | apply below_drew1 | refine below_set ?_ GE484.out) | exact HB.out)⟩⟩
          · replace c28 := Bool.eq_false_iff.mpr c28
            subst c28
            have H1 : (laws_FnCellOk.j1 kj3 false t473 t474 t475 t476 t477 t478 t479 t480 t481 t482 t483) = some r := by rw [if_neg (show ¬ (false = true) by decide)] at H; exact H
            clear H
            have H := H1
            clear H1
            have H' := Aside0.mk H
            clear H
            go_wp2
            go_meet
            case rel => exact ⟨_, (false), (by first | rfl | (simp; done) | (simp [*]; done)), H', ⟨by have := HJ3.out; first | omega | exact Nat.le_refl _⟩, ⟨by (with_reducible repeat (first | refine blk_drewN ?_ _ | refine blk_drew ?_ | refine blk_alloc ?_ _)); exact BK484.out⟩, ⟨by repeat (first | (with_reducible first | exact HB.out | apply below_alloc | apply pw_below_drewN | apply below_drew1 | refine below_set ?_ GE484.out) | exact HB.out)⟩⟩
        case rest =>
          clear HC27
          try clear c1
          try clear c2
          try clear c2b0
          try clear c2b1
          try clear p2
          try clear c3
          try clear c9
          try clear c10
          try clear c10b0
          try clear c11
          try clear c11b0
          try clear c12
          try clear c12b0
          try clear c25
          try clear c28
          try clear c30
          try clear c32
          try clear c34
          try clear hcz13_0
          try clear hcz13_1
          try clear hcz13_10
          try clear hcz13_2
          try clear hcz13_3
          try clear hcz13_4
          try clear hcz13_5
          try clear hcz13_6
          try clear hcz13_7
          try clear hcz13_8
          try clear hcz13_9
          try clear hcz15_0
          try clear hcz15_1
          try clear hcz15_10
          try clear hcz15_2
          try clear hcz15_3
          try clear hcz15_4
          try clear hcz15_5
          try clear hcz15_6
          try clear hcz15_7
          try clear hcz15_8
          try clear hcz15_9
          try clear hcz16_0
          try clear hcz16_1
          try clear hcz16_10
          try clear hcz16_2
          try clear hcz16_3
          try clear hcz16_4
          try clear hcz16_5
          try clear hcz16_6
          try clear hcz16_7
          try clear hcz16_8
          try clear hcz16_9
          try clear hcz18_0
          try clear hcz18_1
          try clear hcz18_10
          try clear hcz18_2
          try clear hcz18_3
          try clear hcz18_4
          try clear hcz18_5
          try clear hcz18_6
          try clear hcz18_7
          try clear hcz18_8
          try clear hcz18_9
          try clear hcz19_0
          try clear hcz19_1
          try clear hcz19_10
          try clear hcz19_2
          try clear hcz19_3
          try clear hcz19_4
          try clear hcz19_5
          try clear hcz19_6
          try clear hcz19_7
          try clear hcz19_8
          try clear hcz19_9
          try clear hcz21_0
          try clear hcz21_1
          try clear hcz21_10
          try clear hcz21_2
          try clear hcz21_3
          try clear hcz21_4
          try clear hcz21_5
          try clear hcz21_6
          try clear hcz21_7
          try clear hcz21_8
          try clear hcz21_9
          try clear hcz22_0
          try clear hcz22_1
          try clear hcz22_10
          try clear hcz22_2
          try clear hcz22_3
          try clear hcz22_4
          try clear hcz22_5
          try clear hcz22_6
          try clear hcz22_7
          try clear hcz22_8
          try clear hcz22_9
          try clear hcz24_0
          try clear hcz24_1
          try clear hcz24_10
          try clear hcz24_2
          try clear hcz24_3
          try clear hcz24_4
          try clear hcz24_5
          try clear hcz24_6
          try clear hcz24_7
          try clear hcz24_8
          try clear hcz24_9
          try clear hcz25_0
          try clear hcz25_1
          try clear hcz25_10
          try clear hcz25_2
          try clear hcz25_3
          try clear hcz25_4
          try clear hcz25_5
          try clear hcz25_6
          try clear hcz25_7
          try clear hcz25_8
          try clear hcz25_9
          try clear hcz36_0
          try clear hcz36_1
          try clear hcz36_10
          try clear hcz36_2
          try clear hcz36_3
          try clear hcz36_4
          try clear hcz36_5
          try clear hcz36_6
          try clear hcz36_7
          try clear hcz36_8
          try clear hcz36_9
          try clear hcz38_0
          try clear hcz38_1
          try clear hcz38_10
          try clear hcz38_2
          try clear hcz38_3
          try clear hcz38_4
          try clear hcz38_5
          try clear hcz38_6
          try clear hcz38_7
          try clear hcz38_8
          try clear hcz38_9
          try clear hcz40_0
          try clear hcz40_1
          try clear hcz40_10
          try clear hcz40_2
          try clear hcz40_3
          try clear hcz40_4
          try clear hcz40_5
          try clear hcz40_6
          try clear hcz40_7
          try clear hcz40_8
          try clear hcz40_9
          try clear hcz42_0
          try clear hcz42_1
          try clear hcz42_10
          try clear hcz42_2
          try clear hcz42_3
          try clear hcz42_4
          try clear hcz42_5
          try clear hcz42_6
          try clear hcz42_7
          try clear hcz42_8
          try clear hcz42_9
          try clear hcz44_0
          try clear hcz44_1
          try clear hcz44_10
          try clear hcz44_2
          try clear hcz44_3
          try clear hcz44_4
          try clear hcz44_5
          try clear hcz44_6
          try clear hcz44_7
          try clear hcz44_8
          try clear hcz44_9
          try clear hcz46_0
          try clear hcz46_1
          try clear hcz46_10
          try clear hcz46_2
          try clear hcz46_3
          try clear hcz46_4
          try clear hcz46_5
          try clear hcz46_6
          try clear hcz46_7
          try clear hcz46_8
          try clear hcz46_9
          try clear hcz48_0
          try clear hcz48_1
          try clear hcz48_10
          try clear hcz48_2
          try clear hcz48_3
          try clear hcz48_4
          try clear hcz48_5
          try clear hcz48_6
          try clear hcz48_7
          try clear hcz48_8
          try clear hcz48_9
          try clear hcz50_0
          try clear hcz50_1
          try clear hcz50_10
          try clear hcz50_2
          try clear hcz50_3
          try clear hcz50_4
          try clear hcz50_5
          try clear hcz50_6
          try clear hcz50_7
          try clear hcz50_8
          try clear hcz50_9
          try clear hcz52_0
          try clear hcz52_1
          try clear hcz52_10
          try clear hcz52_2
          try clear hcz52_3
          try clear hcz52_4
          try clear hcz52_5
          try clear hcz52_6
          try clear hcz52_7
          try clear hcz52_8
          try clear hcz52_9
          try clear hcz54_0
          try clear hcz54_1
          try clear hcz54_10
          try clear hcz54_2
          try clear hcz54_3
          try clear hcz54_4
          try clear hcz54_5
          try clear hcz54_6
          try clear hcz54_7
          try clear hcz54_8
          try clear hcz54_9
          try clear hcz7_0
          try clear hcz7_1
          try clear hcz7_10
          try clear hcz7_2
          try clear hcz7_3
          try clear hcz7_4
          try clear hcz7_5
          try clear hcz7_6
          try clear hcz7_7
          try clear hcz7_8
          try clear hcz7_9
          try clear hfz13_0
          try clear hfz13_1
          try clear hfz13_10
          try clear hfz13_2
          try clear hfz13_3
          try clear hfz13_4
          try clear hfz13_5
          try clear hfz13_6
          try clear hfz13_7
          try clear hfz13_8
          try clear hfz13_9
          try clear hfz15_0
          try clear hfz15_1
          try clear hfz15_10
          try clear hfz15_2
          try clear hfz15_3
          try clear hfz15_4
          try clear hfz15_5
          try clear hfz15_6
          try clear hfz15_7
          try clear hfz15_8
          try clear hfz15_9
          try clear hfz16_0
          try clear hfz16_1
          try clear hfz16_10
          try clear hfz16_2
          try clear hfz16_3
          try clear hfz16_4
          try clear hfz16_5
          try clear hfz16_6
          try clear hfz16_7
          try clear hfz16_8
          try clear hfz16_9
          try clear hfz18_0
          try clear hfz18_1
          try clear hfz18_10
          try clear hfz18_2
          try clear hfz18_3
          try clear hfz18_4
          try clear hfz18_5
          try clear hfz18_6
          try clear hfz18_7
          try clear hfz18_8
          try clear hfz18_9
          try clear hfz19_0
          try clear hfz19_1
          try clear hfz19_10
          try clear hfz19_2
          try clear hfz19_3
          try clear hfz19_4
          try clear hfz19_5
          try clear hfz19_6
          try clear hfz19_7
          try clear hfz19_8
          try clear hfz19_9
          try clear hfz21_0
          try clear hfz21_1
          try clear hfz21_10
          try clear hfz21_2
          try clear hfz21_3
          try clear hfz21_4
          try clear hfz21_5
          try clear hfz21_6
          try clear hfz21_7
          try clear hfz21_8
          try clear hfz21_9
          try clear hfz22_0
          try clear hfz22_1
          try clear hfz22_10
          try clear hfz22_2
          try clear hfz22_3
          try clear hfz22_4
          try clear hfz22_5
          try clear hfz22_6
          try clear hfz22_7
          try clear hfz22_8
          try clear hfz22_9
          try clear hfz24_0
          try clear hfz24_1
          try clear hfz24_10
          try clear hfz24_2
          try clear hfz24_3
          try clear hfz24_4
          try clear hfz24_5
          try clear hfz24_6
          try clear hfz24_7
          try clear hfz24_8
          try clear hfz24_9
          try clear hfz25_0
          try clear hfz25_1
          try clear hfz25_10
          try clear hfz25_2
          try clear hfz25_3
          try clear hfz25_4
          try clear hfz25_5
          try clear hfz25_6
          try clear hfz25_7
          try clear hfz25_8
          try clear hfz25_9
          try clear hfz36_0
          try clear hfz36_1
          try clear hfz36_10
          try clear hfz36_2
          try clear hfz36_3
          try clear hfz36_4
          try clear hfz36_5
          try clear hfz36_6
          try clear hfz36_7
          try clear hfz36_8
          try clear hfz36_9
          try clear hfz38_0
          try clear hfz38_1
          try clear hfz38_10
          try clear hfz38_2
          try clear hfz38_3
          try clear hfz38_4
          try clear hfz38_5
          try clear hfz38_6
          try clear hfz38_7
          try clear hfz38_8
          try clear hfz38_9
          try clear hfz40_0
          try clear hfz40_1
          try clear hfz40_10
          try clear hfz40_2
          try clear hfz40_3
          try clear hfz40_4
          try clear hfz40_5
          try clear hfz40_6
          try clear hfz40_7
          try clear hfz40_8
          try clear hfz40_9
          try clear hfz42_0
          try clear hfz42_1
          try clear hfz42_10
          try clear hfz42_2
          try clear hfz42_3
          try clear hfz42_4
          try clear hfz42_5
          try clear hfz42_6
          try clear hfz42_7
          try clear hfz42_8
          try clear hfz42_9
          try clear hfz44_0
          try clear hfz44_1
          try clear hfz44_10
          try clear hfz44_2
          try clear hfz44_3
          try clear hfz44_4
          try clear hfz44_5
          try clear hfz44_6
          try clear hfz44_7
          try clear hfz44_8
          try clear hfz44_9
          try clear hfz46_0
          try clear hfz46_1
          try clear hfz46_10
          try clear hfz46_2
          try clear hfz46_3
          try clear hfz46_4
          try clear hfz46_5
          try clear hfz46_6
          try clear hfz46_7
          try clear hfz46_8
          try clear hfz46_9
          try clear hfz48_0
          try clear hfz48_1
          try clear hfz48_10
          try clear hfz48_2
          try clear hfz48_3
          try clear hfz48_4
          try clear hfz48_5
          try clear hfz48_6
          try clear hfz48_7
          try clear hfz48_8
          try clear hfz48_9
          try clear hfz50_0
          try clear hfz50_1
          try clear hfz50_10
          try clear hfz50_2
          try clear hfz50_3
          try clear hfz50_4
          try clear hfz50_5
          try clear hfz50_6
          try clear hfz50_7
          try clear hfz50_8
          try clear hfz50_9
          try clear hfz52_0
          try clear hfz52_1
          try clear hfz52_10
          try clear hfz52_2
          try clear hfz52_3
          try clear hfz52_4
          try clear hfz52_5
          try clear hfz52_6
          try clear hfz52_7
          try clear hfz52_8
          try clear hfz52_9
          try clear hfz54_0
          try clear hfz54_1
          try clear hfz54_10
          try clear hfz54_2
          try clear hfz54_3
          try clear hfz54_4
          try clear hfz54_5
          try clear hfz54_6
          try clear hfz54_7
          try clear hfz54_8
          try clear hfz54_9
          try clear hfz7_0
          try clear hfz7_1
          try clear hfz7_10
          try clear hfz7_2
          try clear hfz7_3
          try clear hfz7_4
          try clear hfz7_5
          try clear hfz7_6
          try clear hfz7_7
          try clear hfz7_8
          try clear hfz7_9
          try clear p2
          obtain ⟨kq, x4_26, rfl, HA, HJ26, BK484, HB⟩ := hcut
          cases kq with
          | zero => exact absurd HA.out (by simp [laws_FnCellOk.j1])
          | succ kj26 =>
            have H := HA.out
            clear HA
            simp only [laws_FnCellOk.j1] at H
            replace H := Option.bind_eq_some_iff.mp H
            obtain ⟨t490, A560, H⟩ := H
            replace H : (if (t490 == x4_26) = true then ((impl_CellOk.f kj26 t473 t474 t475 t476 t477 t478 t479 t480 t481 t482 t483).bind fun t491 => ((spec_CellOk.f kj26 t473 t474 t475 t476 t477 t478 t479 t480 t481 t482 t483).bind fun t492 => (if (t491 == t492) = true then ((impl_CellOk.f kj26 (⟨#[]⟩ : ByteArray) 1 1 0 0 0 0 0 0 0 0).bind fun t493 => (some t493)) else (some false)))) else (some false)) = some r := H
            have A56 := Aside0.mk A560
            clear A560
            by_cases c57 : (t490 == x4_26) = true
            · rw [if_pos c57] at H
              have c57b0 : (t490 == x4_26) = true := c57
              (try (have c57b1 : decide (t490 = x4_26) = true := by simpa using c57))
              (try (have c57b2 : (t490 == x4_26) = true := by simpa using c57))
              clear c57
              replace H := Option.bind_eq_some_iff.mp H
              obtain ⟨t491, A580, H⟩ := H
              replace H : ((spec_CellOk.f kj26 t473 t474 t475 t476 t477 t478 t479 t480 t481 t482 t483).bind fun t492 => (if (t491 == t492) = true then ((impl_CellOk.f kj26 (⟨#[]⟩ : ByteArray) 1 1 0 0 0 0 0 0 0 0).bind fun t493 => (some t493)) else (some false))) = some r := H
              have A58 := Aside0.mk A580
              clear A580
              replace H := Option.bind_eq_some_iff.mp H
              obtain ⟨t492, A590, H⟩ := H
              replace H : (if (t491 == t492) = true then ((impl_CellOk.f kj26 (⟨#[]⟩ : ByteArray) 1 1 0 0 0 0 0 0 0 0).bind fun t493 => (some t493)) else (some false)) = some r := H
              have A59 := Aside0.mk A590
              clear A590
              by_cases c60 : (t491 == t492) = true
              · rw [if_pos c60] at H
                have c60b0 : (t491 == t492) = true := c60
                (try (have c60b1 : decide (t491 = t492) = true := by simpa using c60))
                (try (have c60b2 : (t491 == t492) = true := by simpa using c60))
                clear c60
                replace H := Option.bind_eq_some_iff.mp H
                obtain ⟨t493, A610, H⟩ := H
                replace H : (some t493) = some r := H
                have A61 := Aside0.mk A610
                clear A610
                obtain rfl := Option.some.inj H
                try go_wp2
                have n0_ := Aside0.mk (blk_drew BK484.out)
                have n1_ := Aside0.mk (below_drew1 HB.out)
                clear BK484
                clear HB
                have BK484 := n0_
                have HB := n1_
                clear n0_ n1_
                refine start_ (n := 16) (S := fun w' => w'.cell? ⟨gb484, 0, none⟩ = some (.string t473) ∧ w'.cell? ⟨gb484, 1, none⟩ = some (.int .i64 t474) ∧ w'.cell? ⟨gb484, 2, none⟩ = some (.int .i64 t475) ∧ w'.cell? ⟨gb484, 3, none⟩ = some (.int .i64 t476) ∧ w'.cell? ⟨gb484, 4, none⟩ = some (.int .i64 t477) ∧ w'.cell? ⟨gb484, 5, none⟩ = some (.int .i64 t478) ∧ w'.cell? ⟨gb484, 6, none⟩ = some (.int .i64 t479) ∧ w'.cell? ⟨gb484, 7, none⟩ = some (.int .i64 t480) ∧ w'.cell? ⟨gb484, 8, none⟩ = some (.int .i64 t481) ∧ w'.cell? ⟨gb484, 9, none⟩ = some (.int .i64 t482) ∧ w'.cell? ⟨gb484, 10, none⟩ = some (.int .i64 t483)) (ds := []) #[false, false, false, false, false, false, false, false, false, false, false, false, false, false, false, false] (by kernel_rfl) rfl rfl ⟨(blk_cell BK484.out 0).trans rfl, (blk_cell BK484.out 1).trans rfl, (blk_cell BK484.out 2).trans rfl, (blk_cell BK484.out 3).trans rfl, (blk_cell BK484.out 4).trans rfl, (blk_cell BK484.out 5).trans rfl, (blk_cell BK484.out 6).trans rfl, (blk_cell BK484.out 7).trans rfl, (blk_cell BK484.out 8).trans rfl, (blk_cell BK484.out 9).trans rfl, (blk_cell BK484.out 10).trans rfl⟩ (fun hHeld => ?_); refine with_tabW laws_FnCellOk.tab6 laws_FnCellOk.bits6 (fun HT_ HW_ => ?_)
                generalize wc.drew = w62 at BK484 HB hHeld ⊢
                refine pure_ (i := 2) (N := some 56) (v := ?_) (a' := ?_) #[false, false, true, false, false, false, false, false, false, false, false, false, false, false, false, false] rfl rfl (any_of HT_.out (by kernel_rfl)) (fun _ _ _ h => h) (Or.inl ⟨by rfl, ?_⟩) ?_ ?_
                rotate_left
                · intro w'
                  go_simp
                  with_reducible rfl
                rotate_left
                · simp only [Act.put, List.setIfInBounds_toArray, List.set_cons_zero, List.set_cons_succ, i64_w, i32_w]
                  rfl
                refine take_ (i := 0) (N := some 54) (v := ?_) (a' := ?_) #[true, false, true, false, false, false, false, false, false, false, false, false, false, false, false, false] rfl rfl (take_ofW HT_.out HW_.out (by kernel_rfl)) (fun _ _ _ h => h) (Or.inl ⟨by rfl, ?_⟩) hHeld ?_ ?_
                rotate_left
                · rintro w' ⟨s0, s1, s2, s3, s4, s5, s6, s7, s8, s9, s10⟩
                  go_simp
                  with_reducible rfl
                rotate_left
                · simp only [Act.put, List.setIfInBounds_toArray, List.set_cons_zero, List.set_cons_succ, i64_w, i32_w]
                  rfl
                refine one_ (i := 1) (N := some 55) #[true, true, true, false, false, false, false, false, false, false, false, false, false, false, false, false] rfl rfl (one_of HT_.out (by kernel_rfl)) (by decide) (fun K hK => ?_)
                refine goes_ Tryd.func30 (by kernel_rfl) rfl #[.agg #[.string t473, .int .i64 t474, .int .i64 t475, .int .i64 t476, .int .i64 t477, .int .i64 t478, .int .i64 t479, .int .i64 t480, .int .i64 t481, .int .i64 t482, .int .i64 t483]] (by rfl) rfl rfl (by (try simp only [List.map_toArray, List.map_cons, List.map_nil]); first | done | rfl | (simp only [List.length_drop, List.length_take]; rfl)) ?_
                with_reducible refine (impl_CellOk.calls kj26 t473 t474 t475 t476 t477 t478 t479 t480 t481 t482 t483 t490 _ A56.out).mono ?_
                rintro e w63 ⟨rfl, hb⟩
                refine ⟨_, rfl, ?_⟩
                have n0_ := Aside0.mk (blk_below (g := gb484) (o := .cells #[.string t473, .int .i64 t474, .int .i64 t475, .int .i64 t476, .int .i64 t477, .int .i64 t478, .int .i64 t479, .int .i64 t480, .int .i64 t481, .int .i64 t482, .int .i64 t483] 38 (0, 0)) (by (with_reducible repeat (first | refine blk_drewN ?_ _ | refine blk_drew ?_ | refine blk_alloc ?_ _)); exact BK484.out) hb)
                have n1_ := Aside0.mk (below_step (by repeat (first | (with_reducible first | exact HB.out | apply below_alloc | apply pw_below_drewN | apply below_drew1 | refine below_set ?_ GE484.out) | exact HB.out)) hb)
                clear BK484
                clear HB
                have BK484 := n0_
                have HB := n1_
                clear n0_ n1_
                (try clear hb)
                (try clear hb2)
                (try clear hk)
                (try clear hi)
                refine hK.out _ _ ⟨(blk_cell BK484.out 0).trans rfl, (blk_cell BK484.out 1).trans rfl, (blk_cell BK484.out 2).trans rfl, (blk_cell BK484.out 3).trans rfl, (blk_cell BK484.out 4).trans rfl, (blk_cell BK484.out 5).trans rfl, (blk_cell BK484.out 6).trans rfl, (blk_cell BK484.out 7).trans rfl, (blk_cell BK484.out 8).trans rfl, (blk_cell BK484.out 9).trans rfl, (blk_cell BK484.out 10).trans rfl⟩ (fun hHeld => ?_)
                clear hK K
                refine norm_ (a' := ?_) ?_ ?_
                rotate_left
                · show Act.put _ (some 55) _ = _
                  simp only [Act.put, List.setIfInBounds_toArray, List.set_cons_zero, List.set_cons_succ, i64_w, i32_w]
                  rfl
                refine pure_ (i := 3) (N := some 57) (v := ?_) (a' := ?_) #[true, true, true, true, false, false, false, false, false, false, false, false, false, false, false, false] rfl rfl (any_of HT_.out (by kernel_rfl)) (fun _ _ _ h => h) (Or.inl ⟨by rfl, ?_⟩) ?_ ?_
                rotate_left
                · intro w'
                  go_simp
                  with_reducible rfl
                rotate_left
                · simp only [Act.put, List.setIfInBounds_toArray, List.set_cons_zero, List.set_cons_succ, i64_w, i32_w]
                  rfl
                refine pure_ (i := 4) (N := some 58) (v := ?_) (a' := ?_) #[true, true, true, true, true, false, false, false, false, false, false, false, false, false, false, false] rfl rfl (any_of HT_.out (by kernel_rfl)) (fun _ _ _ h => h) (Or.inl ⟨by rfl, ?_⟩) ?_ ?_
                rotate_left
                · intro w'
                  go_simp
                  with_reducible rfl
                rotate_left
                · simp only [Act.put, List.setIfInBounds_toArray, List.set_cons_zero, List.set_cons_succ, i64_w, i32_w]
                  rfl
                refine take_ (i := 5) (N := some 59) (v := ?_) (a' := ?_) #[true, true, true, true, true, true, false, false, false, false, false, false, false, false, false, false] rfl rfl (take_ofW HT_.out HW_.out (by kernel_rfl)) (fun _ _ _ h => h) (Or.inl ⟨by rfl, ?_⟩) hHeld ?_ ?_
                rotate_left
                · rintro w' ⟨s0, s1, s2, s3, s4, s5, s6, s7, s8, s9, s10⟩
                  go_simp
                  with_reducible rfl
                rotate_left
                · simp only [Act.put, List.setIfInBounds_toArray, List.set_cons_zero, List.set_cons_succ, i64_w, i32_w]
                  rfl
                refine take_ (i := 7) (N := some 61) (v := ?_) (a' := ?_) #[true, true, true, true, true, true, false, true, false, false, false, false, false, false, false, false] rfl rfl (take_ofW HT_.out HW_.out (by kernel_rfl)) (fun _ _ _ h => h) (Or.inl ⟨by rfl, ?_⟩) hHeld ?_ ?_
                rotate_left
                · rintro w' ⟨s0, s1, s2, s3, s4, s5, s6, s7, s8, s9, s10⟩
                  go_simp
                  with_reducible rfl
                rotate_left
                · simp only [Act.put, List.setIfInBounds_toArray, List.set_cons_zero, List.set_cons_succ, i64_w, i32_w]
                  rfl
                refine one_ (i := 6) (N := some 60) #[true, true, true, true, true, true, true, true, false, false, false, false, false, false, false, false] rfl rfl (one_of HT_.out (by kernel_rfl)) (by decide) (fun K hK => ?_)
                refine goes_ Tryd.func30 (by kernel_rfl) rfl #[.agg #[.string t473, .int .i64 t474, .int .i64 t475, .int .i64 t476, .int .i64 t477, .int .i64 t478, .int .i64 t479, .int .i64 t480, .int .i64 t481, .int .i64 t482, .int .i64 t483]] (by rfl) rfl rfl (by (try simp only [List.map_toArray, List.map_cons, List.map_nil]); first | done | rfl | (simp only [List.length_drop, List.length_take]; rfl)) ?_
                with_reducible refine (impl_CellOk.calls kj26 t473 t474 t475 t476 t477 t478 t479 t480 t481 t482 t483 t491 _ A58.out).mono ?_
                rintro e w64 ⟨rfl, hb⟩
                refine ⟨_, rfl, ?_⟩
                have n0_ := Aside0.mk (blk_below (g := gb484) (o := .cells #[.string t473, .int .i64 t474, .int .i64 t475, .int .i64 t476, .int .i64 t477, .int .i64 t478, .int .i64 t479, .int .i64 t480, .int .i64 t481, .int .i64 t482, .int .i64 t483] 38 (0, 0)) (by (with_reducible repeat (first | refine blk_drewN ?_ _ | refine blk_drew ?_ | refine blk_alloc ?_ _)); exact BK484.out) hb)
                have n1_ := Aside0.mk (below_step (by repeat (first | (with_reducible first | exact HB.out | apply below_alloc | apply pw_below_drewN | apply below_drew1 | refine below_set ?_ GE484.out) | exact HB.out)) hb)
                clear BK484
                clear HB
                have BK484 := n0_
                have HB := n1_
                clear n0_ n1_
                (try clear hb)
                (try clear hb2)
                (try clear hk)
                (try clear hi)
                refine hK.out _ _ ⟨(blk_cell BK484.out 0).trans rfl, (blk_cell BK484.out 1).trans rfl, (blk_cell BK484.out 2).trans rfl, (blk_cell BK484.out 3).trans rfl, (blk_cell BK484.out 4).trans rfl, (blk_cell BK484.out 5).trans rfl, (blk_cell BK484.out 6).trans rfl, (blk_cell BK484.out 7).trans rfl, (blk_cell BK484.out 8).trans rfl, (blk_cell BK484.out 9).trans rfl, (blk_cell BK484.out 10).trans rfl⟩ (fun hHeld => ?_)
                clear hK K
                refine norm_ (a' := ?_) ?_ ?_
                rotate_left
                · show Act.put _ (some 60) _ = _
                  simp only [Act.put, List.setIfInBounds_toArray, List.set_cons_zero, List.set_cons_succ, i64_w, i32_w]
                  rfl
                refine one_ (i := 8) (N := some 62) #[true, true, true, true, true, true, true, true, true, false, false, false, false, false, false, false] rfl rfl (one_of HT_.out (by kernel_rfl)) (by decide) (fun K hK => ?_)
                refine goes_ Tryd.func31 (by kernel_rfl) rfl #[.agg #[.string t473, .int .i64 t474, .int .i64 t475, .int .i64 t476, .int .i64 t477, .int .i64 t478, .int .i64 t479, .int .i64 t480, .int .i64 t481, .int .i64 t482, .int .i64 t483]] (by rfl) rfl rfl (by (try simp only [List.map_toArray, List.map_cons, List.map_nil]); first | done | rfl | (simp only [List.length_drop, List.length_take]; rfl)) ?_
                with_reducible refine (spec_CellOk.calls kj26 t473 t474 t475 t476 t477 t478 t479 t480 t481 t482 t483 t492 _ A59.out).mono ?_
                rintro e w65 ⟨rfl, hb⟩
                refine ⟨_, rfl, ?_⟩
                have n0_ := Aside0.mk (blk_below (g := gb484) (o := .cells #[.string t473, .int .i64 t474, .int .i64 t475, .int .i64 t476, .int .i64 t477, .int .i64 t478, .int .i64 t479, .int .i64 t480, .int .i64 t481, .int .i64 t482, .int .i64 t483] 38 (0, 0)) (by (with_reducible repeat (first | refine blk_drewN ?_ _ | refine blk_drew ?_ | refine blk_alloc ?_ _)); exact BK484.out) hb)
                have n1_ := Aside0.mk (below_step (by repeat (first | (with_reducible first | exact HB.out | apply below_alloc | apply pw_below_drewN | apply below_drew1 | refine below_set ?_ GE484.out) | exact HB.out)) hb)
                clear BK484
                clear HB
                have BK484 := n0_
                have HB := n1_
                clear n0_ n1_
                (try clear hb)
                (try clear hb2)
                (try clear hk)
                (try clear hi)
                refine hK.out _ _ ⟨(blk_cell BK484.out 0).trans rfl, (blk_cell BK484.out 1).trans rfl, (blk_cell BK484.out 2).trans rfl, (blk_cell BK484.out 3).trans rfl, (blk_cell BK484.out 4).trans rfl, (blk_cell BK484.out 5).trans rfl, (blk_cell BK484.out 6).trans rfl, (blk_cell BK484.out 7).trans rfl, (blk_cell BK484.out 8).trans rfl, (blk_cell BK484.out 9).trans rfl, (blk_cell BK484.out 10).trans rfl⟩ (fun hHeld => ?_)
                clear hK K
                refine norm_ (a' := ?_) ?_ ?_
                rotate_left
                · show Act.put _ (some 62) _ = _
                  simp only [Act.put, List.setIfInBounds_toArray, List.set_cons_zero, List.set_cons_succ, i64_w, i32_w]
                  rfl
                refine pure_ (i := 9) (N := some 63) (v := ?_) (a' := ?_) #[true, true, true, true, true, true, true, true, true, true, false, false, false, false, false, false] rfl rfl (any_of HT_.out (by kernel_rfl)) (fun _ _ _ h => h) (Or.inl ⟨by rfl, ?_⟩) ?_ ?_
                rotate_left
                · intro w'
                  go_simp
                  with_reducible rfl
                rotate_left
                · simp only [Act.put, List.setIfInBounds_toArray, List.set_cons_zero, List.set_cons_succ, i64_w, i32_w]
                  rfl
                refine pure_ (i := 10) (N := some 64) (v := ?_) (a' := ?_) #[true, true, true, true, true, true, true, true, true, true, true, false, false, false, false, false] rfl rfl (any_of HT_.out (by kernel_rfl)) (fun _ _ _ h => h) (Or.inl ⟨by rfl, ?_⟩) ?_ ?_
                rotate_left
                · intro w'
                  go_simp
                  with_reducible rfl
                rotate_left
                · simp only [Act.put, List.setIfInBounds_toArray, List.set_cons_zero, List.set_cons_succ, i64_w, i32_w]
                  rfl
                refine pure_ (i := 11) (N := some 65) (v := ?_) (a' := ?_) #[true, true, true, true, true, true, true, true, true, true, true, true, false, false, false, false] rfl rfl (any_of HT_.out (by kernel_rfl)) (fun _ _ _ h => h) (Or.inl ⟨by rfl, ?_⟩) ?_ ?_
                rotate_left
                · intro w'
                  go_simp
                  with_reducible rfl
                rotate_left
                · simp only [Act.put, List.setIfInBounds_toArray, List.set_cons_zero, List.set_cons_succ, i64_w, i32_w]
                  rfl
                refine pure_ (i := 12) (N := some 66) (v := ?_) (a' := ?_) #[true, true, true, true, true, true, true, true, true, true, true, true, true, false, false, false] rfl rfl (any_of HT_.out (by kernel_rfl)) (fun _ _ _ h => h) (Or.inl ⟨by rfl, ?_⟩) ?_ ?_
                rotate_left
                · intro w'
                  go_simp
                  with_reducible rfl
                rotate_left
                · simp only [Act.put, List.setIfInBounds_toArray, List.set_cons_zero, List.set_cons_succ, i64_w, i32_w]
                  rfl
                refine one_ (i := 13) (N := some 67) #[true, true, true, true, true, true, true, true, true, true, true, true, true, true, false, false] rfl rfl (one_of HT_.out (by kernel_rfl)) (by decide) (fun K hK => ?_)
                refine goes_ Tryd.func30 (by kernel_rfl) rfl #[.agg #[.string (⟨#[]⟩ : ByteArray), .int .i64 1, .int .i64 1, .int .i64 0, .int .i64 0, .int .i64 0, .int .i64 0, .int .i64 0, .int .i64 0, .int .i64 0, .int .i64 0]] (by rfl) rfl rfl (by (try simp only [List.map_toArray, List.map_cons, List.map_nil]); first | done | rfl | (simp only [List.length_drop, List.length_take]; rfl)) ?_
                with_reducible refine (impl_CellOk.calls kj26 (⟨#[]⟩ : ByteArray) 1 1 0 0 0 0 0 0 0 0 t493 _ A61.out).mono ?_
                rintro e w66 ⟨rfl, hb⟩
                refine ⟨_, rfl, ?_⟩
                have n0_ := Aside0.mk (blk_below (g := gb484) (o := .cells #[.string t473, .int .i64 t474, .int .i64 t475, .int .i64 t476, .int .i64 t477, .int .i64 t478, .int .i64 t479, .int .i64 t480, .int .i64 t481, .int .i64 t482, .int .i64 t483] 38 (0, 0)) (by (with_reducible repeat (first | refine blk_drewN ?_ _ | refine blk_drew ?_ | refine blk_alloc ?_ _)); exact BK484.out) hb)
                have n1_ := Aside0.mk (below_step (by repeat (first | (with_reducible first | exact HB.out | apply below_alloc | apply pw_below_drewN | apply below_drew1 | refine below_set ?_ GE484.out) | exact HB.out)) hb)
                clear BK484
                clear HB
                have BK484 := n0_
                have HB := n1_
                clear n0_ n1_
                (try clear hb)
                (try clear hb2)
                (try clear hk)
                (try clear hi)
                refine hK.out _ _ ⟨(blk_cell BK484.out 0).trans rfl, (blk_cell BK484.out 1).trans rfl, (blk_cell BK484.out 2).trans rfl, (blk_cell BK484.out 3).trans rfl, (blk_cell BK484.out 4).trans rfl, (blk_cell BK484.out 5).trans rfl, (blk_cell BK484.out 6).trans rfl, (blk_cell BK484.out 7).trans rfl, (blk_cell BK484.out 8).trans rfl, (blk_cell BK484.out 9).trans rfl, (blk_cell BK484.out 10).trans rfl⟩ (fun hHeld => ?_)
                clear hK K
                refine norm_ (a' := ?_) ?_ ?_
                rotate_left
                · show Act.put _ (some 67) _ = _
                  simp only [Act.put, List.setIfInBounds_toArray, List.set_cons_zero, List.set_cons_succ, i64_w, i32_w]
                  rfl
                refine pure_ (i := 14) (N := some 68) (v := ?_) (a' := ?_) #[true, true, true, true, true, true, true, true, true, true, true, true, true, true, true, false] rfl rfl (any_of HT_.out (by kernel_rfl)) (fun _ _ _ h => h) (Or.inl ⟨by rfl, ?_⟩) ?_ ?_
                rotate_left
                · intro w'
                  go_simp
                  with_reducible rfl
                rotate_left
                · simp only [Act.put, List.setIfInBounds_toArray, List.set_cons_zero, List.set_cons_succ, i64_w, i32_w]
                  rfl
                refine pure_ (i := 15) (N := some 2) (v := ?_) (a' := ?_) #[true, true, true, true, true, true, true, true, true, true, true, true, true, true, true, true] rfl rfl (any_of HT_.out (by kernel_rfl)) (fun _ _ _ h => h) (Or.inl ⟨by rfl, ?_⟩) ?_ ?_
                rotate_left
                · intro w'
                  go_simp
                  with_reducible rfl
                rotate_left
                · simp only [Act.put, List.setIfInBounds_toArray, List.set_cons_zero, List.set_cons_succ, i64_w, i32_w]
                  rfl
                refine done_ (done_of HT_.out (by kernel_rfl)) ?_
                try go_wp2
                go_ret
                exact ⟨by first | rfl | (simp [errW_none, errW_some] <;> rfl) | (simp [*, errW_none, errW_some] <;> rfl), by repeat (first | (with_reducible first | exact HB.out | apply below_alloc | apply pw_below_drewN | apply below_drew1 | refine below_set ?_ GE484.out) | exact HB.out)⟩
              · rw [if_neg c60] at H
                have c60b0 : (t491 == t492) = false := by simpa using c60
                (try (have c60b1 : decide (t491 = t492) = false := by simpa using c60))
                (try (have c60b2 : (t491 == t492) = false := by simpa using c60))
                (try (have c60b3 : ¬ (t491 = t492) := by simpa using c60))
                clear c60
                obtain rfl := Option.some.inj H
                try go_wp2
                have n0_ := Aside0.mk (blk_drew BK484.out)
                have n1_ := Aside0.mk (below_drew1 HB.out)
                clear BK484
                clear HB
                have BK484 := n0_
                have HB := n1_
                clear n0_ n1_
                refine start_ (n := 16) (S := fun w' => w'.cell? ⟨gb484, 0, none⟩ = some (.string t473) ∧ w'.cell? ⟨gb484, 1, none⟩ = some (.int .i64 t474) ∧ w'.cell? ⟨gb484, 2, none⟩ = some (.int .i64 t475) ∧ w'.cell? ⟨gb484, 3, none⟩ = some (.int .i64 t476) ∧ w'.cell? ⟨gb484, 4, none⟩ = some (.int .i64 t477) ∧ w'.cell? ⟨gb484, 5, none⟩ = some (.int .i64 t478) ∧ w'.cell? ⟨gb484, 6, none⟩ = some (.int .i64 t479) ∧ w'.cell? ⟨gb484, 7, none⟩ = some (.int .i64 t480) ∧ w'.cell? ⟨gb484, 8, none⟩ = some (.int .i64 t481) ∧ w'.cell? ⟨gb484, 9, none⟩ = some (.int .i64 t482) ∧ w'.cell? ⟨gb484, 10, none⟩ = some (.int .i64 t483)) (ds := []) #[false, false, false, false, false, false, false, false, false, false, false, false, false, false, false, false] (by kernel_rfl) rfl rfl ⟨(blk_cell BK484.out 0).trans rfl, (blk_cell BK484.out 1).trans rfl, (blk_cell BK484.out 2).trans rfl, (blk_cell BK484.out 3).trans rfl, (blk_cell BK484.out 4).trans rfl, (blk_cell BK484.out 5).trans rfl, (blk_cell BK484.out 6).trans rfl, (blk_cell BK484.out 7).trans rfl, (blk_cell BK484.out 8).trans rfl, (blk_cell BK484.out 9).trans rfl, (blk_cell BK484.out 10).trans rfl⟩ (fun hHeld => ?_); refine with_tabW laws_FnCellOk.tab6 laws_FnCellOk.bits6 (fun HT_ HW_ => ?_)
                generalize wc.drew = w67 at BK484 HB hHeld ⊢
                refine pure_ (i := 2) (N := some 56) (v := ?_) (a' := ?_) #[false, false, true, false, false, false, false, false, false, false, false, false, false, false, false, false] rfl rfl (any_of HT_.out (by kernel_rfl)) (fun _ _ _ h => h) (Or.inl ⟨by rfl, ?_⟩) ?_ ?_
                rotate_left
                · intro w'
                  go_simp
                  with_reducible rfl
                rotate_left
                · simp only [Act.put, List.setIfInBounds_toArray, List.set_cons_zero, List.set_cons_succ, i64_w, i32_w]
                  rfl
                refine take_ (i := 0) (N := some 54) (v := ?_) (a' := ?_) #[true, false, true, false, false, false, false, false, false, false, false, false, false, false, false, false] rfl rfl (take_ofW HT_.out HW_.out (by kernel_rfl)) (fun _ _ _ h => h) (Or.inl ⟨by rfl, ?_⟩) hHeld ?_ ?_
                rotate_left
                · rintro w' ⟨s0, s1, s2, s3, s4, s5, s6, s7, s8, s9, s10⟩
                  go_simp
                  with_reducible rfl
                rotate_left
                · simp only [Act.put, List.setIfInBounds_toArray, List.set_cons_zero, List.set_cons_succ, i64_w, i32_w]
                  rfl
                refine one_ (i := 1) (N := some 55) #[true, true, true, false, false, false, false, false, false, false, false, false, false, false, false, false] rfl rfl (one_of HT_.out (by kernel_rfl)) (by decide) (fun K hK => ?_)
                refine goes_ Tryd.func30 (by kernel_rfl) rfl #[.agg #[.string t473, .int .i64 t474, .int .i64 t475, .int .i64 t476, .int .i64 t477, .int .i64 t478, .int .i64 t479, .int .i64 t480, .int .i64 t481, .int .i64 t482, .int .i64 t483]] (by rfl) rfl rfl (by (try simp only [List.map_toArray, List.map_cons, List.map_nil]); first | done | rfl | (simp only [List.length_drop, List.length_take]; rfl)) ?_
                with_reducible refine (impl_CellOk.calls kj26 t473 t474 t475 t476 t477 t478 t479 t480 t481 t482 t483 t490 _ A56.out).mono ?_
                rintro e w68 ⟨rfl, hb⟩
                refine ⟨_, rfl, ?_⟩
                have n0_ := Aside0.mk (blk_below (g := gb484) (o := .cells #[.string t473, .int .i64 t474, .int .i64 t475, .int .i64 t476, .int .i64 t477, .int .i64 t478, .int .i64 t479, .int .i64 t480, .int .i64 t481, .int .i64 t482, .int .i64 t483] 38 (0, 0)) (by (with_reducible repeat (first | refine blk_drewN ?_ _ | refine blk_drew ?_ | refine blk_alloc ?_ _)); exact BK484.out) hb)
                have n1_ := Aside0.mk (below_step (by repeat (first | (with_reducible first | exact HB.out | apply below_alloc | apply pw_below_drewN | apply below_drew1 | refine below_set ?_ GE484.out) | exact HB.out)) hb)
                clear BK484
                clear HB
                have BK484 := n0_
                have HB := n1_
                clear n0_ n1_
                (try clear hb)
                (try clear hb2)
                (try clear hk)
                (try clear hi)
                refine hK.out _ _ ⟨(blk_cell BK484.out 0).trans rfl, (blk_cell BK484.out 1).trans rfl, (blk_cell BK484.out 2).trans rfl, (blk_cell BK484.out 3).trans rfl, (blk_cell BK484.out 4).trans rfl, (blk_cell BK484.out 5).trans rfl, (blk_cell BK484.out 6).trans rfl, (blk_cell BK484.out 7).trans rfl, (blk_cell BK484.out 8).trans rfl, (blk_cell BK484.out 9).trans rfl, (blk_cell BK484.out 10).trans rfl⟩ (fun hHeld => ?_)
                clear hK K
                refine norm_ (a' := ?_) ?_ ?_
                rotate_left
                · show Act.put _ (some 55) _ = _
                  simp only [Act.put, List.setIfInBounds_toArray, List.set_cons_zero, List.set_cons_succ, i64_w, i32_w]
                  rfl
                refine pure_ (i := 3) (N := some 57) (v := ?_) (a' := ?_) #[true, true, true, true, false, false, false, false, false, false, false, false, false, false, false, false] rfl rfl (any_of HT_.out (by kernel_rfl)) (fun _ _ _ h => h) (Or.inl ⟨by rfl, ?_⟩) ?_ ?_
                rotate_left
                · intro w'
                  go_simp
                  with_reducible rfl
                rotate_left
                · simp only [Act.put, List.setIfInBounds_toArray, List.set_cons_zero, List.set_cons_succ, i64_w, i32_w]
                  rfl
                refine pure_ (i := 4) (N := some 58) (v := ?_) (a' := ?_) #[true, true, true, true, true, false, false, false, false, false, false, false, false, false, false, false] rfl rfl (any_of HT_.out (by kernel_rfl)) (fun _ _ _ h => h) (Or.inl ⟨by rfl, ?_⟩) ?_ ?_
                rotate_left
                · intro w'
                  go_simp
                  with_reducible rfl
                rotate_left
                · simp only [Act.put, List.setIfInBounds_toArray, List.set_cons_zero, List.set_cons_succ, i64_w, i32_w]
                  rfl
                refine take_ (i := 5) (N := some 59) (v := ?_) (a' := ?_) #[true, true, true, true, true, true, false, false, false, false, false, false, false, false, false, false] rfl rfl (take_ofW HT_.out HW_.out (by kernel_rfl)) (fun _ _ _ h => h) (Or.inl ⟨by rfl, ?_⟩) hHeld ?_ ?_
                rotate_left
                · rintro w' ⟨s0, s1, s2, s3, s4, s5, s6, s7, s8, s9, s10⟩
                  go_simp
                  with_reducible rfl
                rotate_left
                · simp only [Act.put, List.setIfInBounds_toArray, List.set_cons_zero, List.set_cons_succ, i64_w, i32_w]
                  rfl
                refine take_ (i := 7) (N := some 61) (v := ?_) (a' := ?_) #[true, true, true, true, true, true, false, true, false, false, false, false, false, false, false, false] rfl rfl (take_ofW HT_.out HW_.out (by kernel_rfl)) (fun _ _ _ h => h) (Or.inl ⟨by rfl, ?_⟩) hHeld ?_ ?_
                rotate_left
                · rintro w' ⟨s0, s1, s2, s3, s4, s5, s6, s7, s8, s9, s10⟩
                  go_simp
                  with_reducible rfl
                rotate_left
                · simp only [Act.put, List.setIfInBounds_toArray, List.set_cons_zero, List.set_cons_succ, i64_w, i32_w]
                  rfl
                refine one_ (i := 6) (N := some 60) #[true, true, true, true, true, true, true, true, false, false, false, false, false, false, false, false] rfl rfl (one_of HT_.out (by kernel_rfl)) (by decide) (fun K hK => ?_)
                refine goes_ Tryd.func30 (by kernel_rfl) rfl #[.agg #[.string t473, .int .i64 t474, .int .i64 t475, .int .i64 t476, .int .i64 t477, .int .i64 t478, .int .i64 t479, .int .i64 t480, .int .i64 t481, .int .i64 t482, .int .i64 t483]] (by rfl) rfl rfl (by (try simp only [List.map_toArray, List.map_cons, List.map_nil]); first | done | rfl | (simp only [List.length_drop, List.length_take]; rfl)) ?_
                with_reducible refine (impl_CellOk.calls kj26 t473 t474 t475 t476 t477 t478 t479 t480 t481 t482 t483 t491 _ A58.out).mono ?_
                rintro e w69 ⟨rfl, hb⟩
                refine ⟨_, rfl, ?_⟩
                have n0_ := Aside0.mk (blk_below (g := gb484) (o := .cells #[.string t473, .int .i64 t474, .int .i64 t475, .int .i64 t476, .int .i64 t477, .int .i64 t478, .int .i64 t479, .int .i64 t480, .int .i64 t481, .int .i64 t482, .int .i64 t483] 38 (0, 0)) (by (with_reducible repeat (first | refine blk_drewN ?_ _ | refine blk_drew ?_ | refine blk_alloc ?_ _)); exact BK484.out) hb)
                have n1_ := Aside0.mk (below_step (by repeat (first | (with_reducible first | exact HB.out | apply below_alloc | apply pw_below_drewN | apply below_drew1 | refine below_set ?_ GE484.out) | exact HB.out)) hb)
                clear BK484
                clear HB
                have BK484 := n0_
                have HB := n1_
                clear n0_ n1_
                (try clear hb)
                (try clear hb2)
                (try clear hk)
                (try clear hi)
                refine hK.out _ _ ⟨(blk_cell BK484.out 0).trans rfl, (blk_cell BK484.out 1).trans rfl, (blk_cell BK484.out 2).trans rfl, (blk_cell BK484.out 3).trans rfl, (blk_cell BK484.out 4).trans rfl, (blk_cell BK484.out 5).trans rfl, (blk_cell BK484.out 6).trans rfl, (blk_cell BK484.out 7).trans rfl, (blk_cell BK484.out 8).trans rfl, (blk_cell BK484.out 9).trans rfl, (blk_cell BK484.out 10).trans rfl⟩ (fun hHeld => ?_)
                clear hK K
                refine norm_ (a' := ?_) ?_ ?_
                rotate_left
                · show Act.put _ (some 60) _ = _
                  simp only [Act.put, List.setIfInBounds_toArray, List.set_cons_zero, List.set_cons_succ, i64_w, i32_w]
                  rfl
                refine one_ (i := 8) (N := some 62) #[true, true, true, true, true, true, true, true, true, false, false, false, false, false, false, false] rfl rfl (one_of HT_.out (by kernel_rfl)) (by decide) (fun K hK => ?_)
                refine goes_ Tryd.func31 (by kernel_rfl) rfl #[.agg #[.string t473, .int .i64 t474, .int .i64 t475, .int .i64 t476, .int .i64 t477, .int .i64 t478, .int .i64 t479, .int .i64 t480, .int .i64 t481, .int .i64 t482, .int .i64 t483]] (by rfl) rfl rfl (by (try simp only [List.map_toArray, List.map_cons, List.map_nil]); first | done | rfl | (simp only [List.length_drop, List.length_take]; rfl)) ?_
                with_reducible refine (spec_CellOk.calls kj26 t473 t474 t475 t476 t477 t478 t479 t480 t481 t482 t483 t492 _ A59.out).mono ?_
                rintro e w70 ⟨rfl, hb⟩
                refine ⟨_, rfl, ?_⟩
                have n0_ := Aside0.mk (blk_below (g := gb484) (o := .cells #[.string t473, .int .i64 t474, .int .i64 t475, .int .i64 t476, .int .i64 t477, .int .i64 t478, .int .i64 t479, .int .i64 t480, .int .i64 t481, .int .i64 t482, .int .i64 t483] 38 (0, 0)) (by (with_reducible repeat (first | refine blk_drewN ?_ _ | refine blk_drew ?_ | refine blk_alloc ?_ _)); exact BK484.out) hb)
                have n1_ := Aside0.mk (below_step (by repeat (first | (with_reducible first | exact HB.out | apply below_alloc | apply pw_below_drewN | apply below_drew1 | refine below_set ?_ GE484.out) | exact HB.out)) hb)
                clear BK484
                clear HB
                have BK484 := n0_
                have HB := n1_
                clear n0_ n1_
                (try clear hb)
                (try clear hb2)
                (try clear hk)
                (try clear hi)
                refine hK.out _ _ ⟨(blk_cell BK484.out 0).trans rfl, (blk_cell BK484.out 1).trans rfl, (blk_cell BK484.out 2).trans rfl, (blk_cell BK484.out 3).trans rfl, (blk_cell BK484.out 4).trans rfl, (blk_cell BK484.out 5).trans rfl, (blk_cell BK484.out 6).trans rfl, (blk_cell BK484.out 7).trans rfl, (blk_cell BK484.out 8).trans rfl, (blk_cell BK484.out 9).trans rfl, (blk_cell BK484.out 10).trans rfl⟩ (fun hHeld => ?_)
                clear hK K
                refine norm_ (a' := ?_) ?_ ?_
                rotate_left
                · show Act.put _ (some 62) _ = _
                  simp only [Act.put, List.setIfInBounds_toArray, List.set_cons_zero, List.set_cons_succ, i64_w, i32_w]
                  rfl
                refine pure_ (i := 9) (N := some 63) (v := ?_) (a' := ?_) #[true, true, true, true, true, true, true, true, true, true, false, false, false, false, false, false] rfl rfl (any_of HT_.out (by kernel_rfl)) (fun _ _ _ h => h) (Or.inl ⟨by rfl, ?_⟩) ?_ ?_
                rotate_left
                · intro w'
                  go_simp
                  with_reducible rfl
                rotate_left
                · simp only [Act.put, List.setIfInBounds_toArray, List.set_cons_zero, List.set_cons_succ, i64_w, i32_w]
                  rfl
                refine pure_ (i := 10) (N := some 64) (v := ?_) (a' := ?_) #[true, true, true, true, true, true, true, true, true, true, true, false, false, false, false, false] rfl rfl (any_of HT_.out (by kernel_rfl)) (fun _ _ _ h => h) (Or.inl ⟨by rfl, ?_⟩) ?_ ?_
                rotate_left
                · intro w'
                  go_simp
                  with_reducible rfl
                rotate_left
                · simp only [Act.put, List.setIfInBounds_toArray, List.set_cons_zero, List.set_cons_succ, i64_w, i32_w]
                  rfl
                refine pure_ (i := 11) (N := some 65) (v := ?_) (a' := ?_) #[true, true, true, true, true, true, true, true, true, true, true, true, false, false, false, false] rfl rfl (any_of HT_.out (by kernel_rfl)) (fun _ _ _ h => h) (Or.inl ⟨by rfl, ?_⟩) ?_ ?_
                rotate_left
                · intro w'
                  go_simp
                  with_reducible rfl
                rotate_left
                · simp only [Act.put, List.setIfInBounds_toArray, List.set_cons_zero, List.set_cons_succ, i64_w, i32_w]
                  rfl
                refine pure_ (i := 12) (N := some 66) (v := undef) (a' := ?_) #[true, true, true, true, true, true, true, true, true, true, true, true, true, false, false, false] rfl rfl (any_of HT_.out (by kernel_rfl)) (fun _ _ _ h => h) (Or.inr ⟨by rfl, rfl⟩) ?_ ?_
                rotate_left
                · simp only [Act.put, List.setIfInBounds_toArray, List.set_cons_zero, List.set_cons_succ, i64_w, i32_w]
                  rfl
                refine pure_ (i := 13) (N := some 67) (v := undef) (a' := ?_) #[true, true, true, true, true, true, true, true, true, true, true, true, true, true, false, false] rfl rfl (any_of HT_.out (by kernel_rfl)) (fun _ _ _ h => h) (Or.inr ⟨by rfl, rfl⟩) ?_ ?_
                rotate_left
                · simp only [Act.put, List.setIfInBounds_toArray, List.set_cons_zero, List.set_cons_succ, i64_w, i32_w]
                  rfl
                refine pure_ (i := 14) (N := some 68) (v := ?_) (a' := ?_) #[true, true, true, true, true, true, true, true, true, true, true, true, true, true, true, false] rfl rfl (any_of HT_.out (by kernel_rfl)) (fun _ _ _ h => h) (Or.inl ⟨by rfl, ?_⟩) ?_ ?_
                rotate_left
                · intro w'
                  go_simp
                  with_reducible rfl
                rotate_left
                · simp only [Act.put, List.setIfInBounds_toArray, List.set_cons_zero, List.set_cons_succ, i64_w, i32_w]
                  rfl
                refine pure_ (i := 15) (N := some 2) (v := ?_) (a' := ?_) #[true, true, true, true, true, true, true, true, true, true, true, true, true, true, true, true] rfl rfl (any_of HT_.out (by kernel_rfl)) (fun _ _ _ h => h) (Or.inl ⟨by rfl, ?_⟩) ?_ ?_
                rotate_left
                · intro w'
                  go_simp
                  with_reducible rfl
                rotate_left
                · simp only [Act.put, List.setIfInBounds_toArray, List.set_cons_zero, List.set_cons_succ, i64_w, i32_w]
                  rfl
                refine done_ (done_of HT_.out (by kernel_rfl)) ?_
                try go_wp2
                go_ret
                exact ⟨by first | rfl | (simp [errW_none, errW_some] <;> rfl) | (simp [*, errW_none, errW_some] <;> rfl), by repeat (first | (with_reducible first | exact HB.out | apply below_alloc | apply pw_below_drewN | apply below_drew1 | refine below_set ?_ GE484.out) | exact HB.out)⟩
            · rw [if_neg c57] at H
              have c57b0 : (t490 == x4_26) = false := by simpa using c57
              (try (have c57b1 : decide (t490 = x4_26) = false := by simpa using c57))
              (try (have c57b2 : (t490 == x4_26) = false := by simpa using c57))
              (try (have c57b3 : ¬ (t490 = x4_26) := by simpa using c57))
              clear c57
              obtain rfl := Option.some.inj H
              try go_wp2
              have n0_ := Aside0.mk (blk_drew BK484.out)
              have n1_ := Aside0.mk (below_drew1 HB.out)
              clear BK484
              clear HB
              have BK484 := n0_
              have HB := n1_
              clear n0_ n1_
              refine start_ (n := 16) (S := fun w' => w'.cell? ⟨gb484, 0, none⟩ = some (.string t473) ∧ w'.cell? ⟨gb484, 1, none⟩ = some (.int .i64 t474) ∧ w'.cell? ⟨gb484, 2, none⟩ = some (.int .i64 t475) ∧ w'.cell? ⟨gb484, 3, none⟩ = some (.int .i64 t476) ∧ w'.cell? ⟨gb484, 4, none⟩ = some (.int .i64 t477) ∧ w'.cell? ⟨gb484, 5, none⟩ = some (.int .i64 t478) ∧ w'.cell? ⟨gb484, 6, none⟩ = some (.int .i64 t479) ∧ w'.cell? ⟨gb484, 7, none⟩ = some (.int .i64 t480) ∧ w'.cell? ⟨gb484, 8, none⟩ = some (.int .i64 t481) ∧ w'.cell? ⟨gb484, 9, none⟩ = some (.int .i64 t482) ∧ w'.cell? ⟨gb484, 10, none⟩ = some (.int .i64 t483)) (ds := []) #[false, false, false, false, false, false, false, false, false, false, false, false, false, false, false, false] (by kernel_rfl) rfl rfl ⟨(blk_cell BK484.out 0).trans rfl, (blk_cell BK484.out 1).trans rfl, (blk_cell BK484.out 2).trans rfl, (blk_cell BK484.out 3).trans rfl, (blk_cell BK484.out 4).trans rfl, (blk_cell BK484.out 5).trans rfl, (blk_cell BK484.out 6).trans rfl, (blk_cell BK484.out 7).trans rfl, (blk_cell BK484.out 8).trans rfl, (blk_cell BK484.out 9).trans rfl, (blk_cell BK484.out 10).trans rfl⟩ (fun hHeld => ?_); refine with_tabW laws_FnCellOk.tab6 laws_FnCellOk.bits6 (fun HT_ HW_ => ?_)
              generalize wc.drew = w71 at BK484 HB hHeld ⊢
              refine pure_ (i := 2) (N := some 56) (v := ?_) (a' := ?_) #[false, false, true, false, false, false, false, false, false, false, false, false, false, false, false, false] rfl rfl (any_of HT_.out (by kernel_rfl)) (fun _ _ _ h => h) (Or.inl ⟨by rfl, ?_⟩) ?_ ?_
              rotate_left
              · intro w'
                go_simp
                with_reducible rfl
              rotate_left
              · simp only [Act.put, List.setIfInBounds_toArray, List.set_cons_zero, List.set_cons_succ, i64_w, i32_w]
                rfl
              refine take_ (i := 0) (N := some 54) (v := ?_) (a' := ?_) #[true, false, true, false, false, false, false, false, false, false, false, false, false, false, false, false] rfl rfl (take_ofW HT_.out HW_.out (by kernel_rfl)) (fun _ _ _ h => h) (Or.inl ⟨by rfl, ?_⟩) hHeld ?_ ?_
              rotate_left
              · rintro w' ⟨s0, s1, s2, s3, s4, s5, s6, s7, s8, s9, s10⟩
                go_simp
                with_reducible rfl
              rotate_left
              · simp only [Act.put, List.setIfInBounds_toArray, List.set_cons_zero, List.set_cons_succ, i64_w, i32_w]
                rfl
              refine one_ (i := 1) (N := some 55) #[true, true, true, false, false, false, false, false, false, false, false, false, false, false, false, false] rfl rfl (one_of HT_.out (by kernel_rfl)) (by decide) (fun K hK => ?_)
              refine goes_ Tryd.func30 (by kernel_rfl) rfl #[.agg #[.string t473, .int .i64 t474, .int .i64 t475, .int .i64 t476, .int .i64 t477, .int .i64 t478, .int .i64 t479, .int .i64 t480, .int .i64 t481, .int .i64 t482, .int .i64 t483]] (by rfl) rfl rfl (by (try simp only [List.map_toArray, List.map_cons, List.map_nil]); first | done | rfl | (simp only [List.length_drop, List.length_take]; rfl)) ?_
              with_reducible refine (impl_CellOk.calls kj26 t473 t474 t475 t476 t477 t478 t479 t480 t481 t482 t483 t490 _ A56.out).mono ?_
              rintro e w72 ⟨rfl, hb⟩
              refine ⟨_, rfl, ?_⟩
              have n0_ := Aside0.mk (blk_below (g := gb484) (o := .cells #[.string t473, .int .i64 t474, .int .i64 t475, .int .i64 t476, .int .i64 t477, .int .i64 t478, .int .i64 t479, .int .i64 t480, .int .i64 t481, .int .i64 t482, .int .i64 t483] 38 (0, 0)) (by (with_reducible repeat (first | refine blk_drewN ?_ _ | refine blk_drew ?_ | refine blk_alloc ?_ _)); exact BK484.out) hb)
              have n1_ := Aside0.mk (below_step (by repeat (first | (with_reducible first | exact HB.out | apply below_alloc | apply pw_below_drewN | apply below_drew1 | refine below_set ?_ GE484.out) | exact HB.out)) hb)
              clear BK484
              clear HB
              have BK484 := n0_
              have HB := n1_
              clear n0_ n1_
              (try clear hb)
              (try clear hb2)
              (try clear hk)
              (try clear hi)
              refine hK.out _ _ ⟨(blk_cell BK484.out 0).trans rfl, (blk_cell BK484.out 1).trans rfl, (blk_cell BK484.out 2).trans rfl, (blk_cell BK484.out 3).trans rfl, (blk_cell BK484.out 4).trans rfl, (blk_cell BK484.out 5).trans rfl, (blk_cell BK484.out 6).trans rfl, (blk_cell BK484.out 7).trans rfl, (blk_cell BK484.out 8).trans rfl, (blk_cell BK484.out 9).trans rfl, (blk_cell BK484.out 10).trans rfl⟩ (fun hHeld => ?_)
              clear hK K
              refine norm_ (a' := ?_) ?_ ?_
              rotate_left
              · show Act.put _ (some 55) _ = _
                simp only [Act.put, List.setIfInBounds_toArray, List.set_cons_zero, List.set_cons_succ, i64_w, i32_w]
                rfl
              refine pure_ (i := 3) (N := some 57) (v := ?_) (a' := ?_) #[true, true, true, true, false, false, false, false, false, false, false, false, false, false, false, false] rfl rfl (any_of HT_.out (by kernel_rfl)) (fun _ _ _ h => h) (Or.inl ⟨by rfl, ?_⟩) ?_ ?_
              rotate_left
              · intro w'
                go_simp
                with_reducible rfl
              rotate_left
              · simp only [Act.put, List.setIfInBounds_toArray, List.set_cons_zero, List.set_cons_succ, i64_w, i32_w]
                rfl
              refine pure_ (i := 4) (N := some 58) (v := ?_) (a' := ?_) #[true, true, true, true, true, false, false, false, false, false, false, false, false, false, false, false] rfl rfl (any_of HT_.out (by kernel_rfl)) (fun _ _ _ h => h) (Or.inl ⟨by rfl, ?_⟩) ?_ ?_
              rotate_left
              · intro w'
                go_simp
                with_reducible rfl
              rotate_left
              · simp only [Act.put, List.setIfInBounds_toArray, List.set_cons_zero, List.set_cons_succ, i64_w, i32_w]
                rfl
              refine pure_ (i := 5) (N := some 59) (v := undef) (a' := ?_) #[true, true, true, true, true, true, false, false, false, false, false, false, false, false, false, false] rfl rfl (any_of HT_.out (by kernel_rfl)) (fun _ _ _ h => h) (Or.inr ⟨by rfl, rfl⟩) ?_ ?_
              rotate_left
              · simp only [Act.put, List.setIfInBounds_toArray, List.set_cons_zero, List.set_cons_succ, i64_w, i32_w]
                rfl
              refine pure_ (i := 6) (N := some 60) (v := undef) (a' := ?_) #[true, true, true, true, true, true, true, false, false, false, false, false, false, false, false, false] rfl rfl (any_of HT_.out (by kernel_rfl)) (fun _ _ _ h => h) (Or.inr ⟨by rfl, rfl⟩) ?_ ?_
              rotate_left
              · simp only [Act.put, List.setIfInBounds_toArray, List.set_cons_zero, List.set_cons_succ, i64_w, i32_w]
                rfl
              refine pure_ (i := 7) (N := some 61) (v := undef) (a' := ?_) #[true, true, true, true, true, true, true, true, false, false, false, false, false, false, false, false] rfl rfl (any_of HT_.out (by kernel_rfl)) (fun _ _ _ h => h) (Or.inr ⟨by rfl, rfl⟩) ?_ ?_
              rotate_left
              · simp only [Act.put, List.setIfInBounds_toArray, List.set_cons_zero, List.set_cons_succ, i64_w, i32_w]
                rfl
              refine pure_ (i := 8) (N := some 62) (v := undef) (a' := ?_) #[true, true, true, true, true, true, true, true, true, false, false, false, false, false, false, false] rfl rfl (any_of HT_.out (by kernel_rfl)) (fun _ _ _ h => h) (Or.inr ⟨by rfl, rfl⟩) ?_ ?_
              rotate_left
              · simp only [Act.put, List.setIfInBounds_toArray, List.set_cons_zero, List.set_cons_succ, i64_w, i32_w]
                rfl
              refine pure_ (i := 9) (N := some 63) (v := undef) (a' := ?_) #[true, true, true, true, true, true, true, true, true, true, false, false, false, false, false, false] rfl rfl (any_of HT_.out (by kernel_rfl)) (fun _ _ _ h => h) (Or.inr ⟨by rfl, rfl⟩) ?_ ?_
              rotate_left
              · simp only [Act.put, List.setIfInBounds_toArray, List.set_cons_zero, List.set_cons_succ, i64_w, i32_w]
                rfl
              refine pure_ (i := 10) (N := some 64) (v := ?_) (a' := ?_) #[true, true, true, true, true, true, true, true, true, true, true, false, false, false, false, false] rfl rfl (any_of HT_.out (by kernel_rfl)) (fun _ _ _ h => h) (Or.inl ⟨by rfl, ?_⟩) ?_ ?_
              rotate_left
              · intro w'
                go_simp
                with_reducible rfl
              rotate_left
              · simp only [Act.put, List.setIfInBounds_toArray, List.set_cons_zero, List.set_cons_succ, i64_w, i32_w]
                rfl
              refine pure_ (i := 11) (N := some 65) (v := ?_) (a' := ?_) #[true, true, true, true, true, true, true, true, true, true, true, true, false, false, false, false] rfl rfl (any_of HT_.out (by kernel_rfl)) (fun _ _ _ h => h) (Or.inl ⟨by rfl, ?_⟩) ?_ ?_
              rotate_left
              · intro w'
                go_simp
                with_reducible rfl
              rotate_left
              · simp only [Act.put, List.setIfInBounds_toArray, List.set_cons_zero, List.set_cons_succ, i64_w, i32_w]
                rfl
              refine pure_ (i := 12) (N := some 66) (v := undef) (a' := ?_) #[true, true, true, true, true, true, true, true, true, true, true, true, true, false, false, false] rfl rfl (any_of HT_.out (by kernel_rfl)) (fun _ _ _ h => h) (Or.inr ⟨by rfl, rfl⟩) ?_ ?_
              rotate_left
              · simp only [Act.put, List.setIfInBounds_toArray, List.set_cons_zero, List.set_cons_succ, i64_w, i32_w]
                rfl
              refine pure_ (i := 13) (N := some 67) (v := undef) (a' := ?_) #[true, true, true, true, true, true, true, true, true, true, true, true, true, true, false, false] rfl rfl (any_of HT_.out (by kernel_rfl)) (fun _ _ _ h => h) (Or.inr ⟨by rfl, rfl⟩) ?_ ?_
              rotate_left
              · simp only [Act.put, List.setIfInBounds_toArray, List.set_cons_zero, List.set_cons_succ, i64_w, i32_w]
                rfl
              refine pure_ (i := 14) (N := some 68) (v := ?_) (a' := ?_) #[true, true, true, true, true, true, true, true, true, true, true, true, true, true, true, false] rfl rfl (any_of HT_.out (by kernel_rfl)) (fun _ _ _ h => h) (Or.inl ⟨by rfl, ?_⟩) ?_ ?_
              rotate_left
              · intro w'
                go_simp
                with_reducible rfl
              rotate_left
              · simp only [Act.put, List.setIfInBounds_toArray, List.set_cons_zero, List.set_cons_succ, i64_w, i32_w]
                rfl
              refine pure_ (i := 15) (N := some 2) (v := ?_) (a' := ?_) #[true, true, true, true, true, true, true, true, true, true, true, true, true, true, true, true] rfl rfl (any_of HT_.out (by kernel_rfl)) (fun _ _ _ h => h) (Or.inl ⟨by rfl, ?_⟩) ?_ ?_
              rotate_left
              · intro w'
                go_simp
                with_reducible rfl
              rotate_left
              · simp only [Act.put, List.setIfInBounds_toArray, List.set_cons_zero, List.set_cons_succ, i64_w, i32_w]
                rfl
              refine done_ (done_of HT_.out (by kernel_rfl)) ?_
              try go_wp2
              go_ret
              exact ⟨by first | rfl | (simp [errW_none, errW_some] <;> rfl) | (simp [*, errW_none, errW_some] <;> rfl), by repeat (first | (with_reducible first | exact HB.out | apply below_alloc | apply pw_below_drewN | apply below_drew1 | refine below_set ?_ GE484.out) | exact HB.out)⟩
def laws_FnCellOk.Pure : Prop := ∀ (l0 : List Int), l0.length ≤ maxLen → l0.length * 1 ≤ 140737488351232 → (∀ x ∈ l0, (Lit.int .u8 x).wf = true) → ∃ k, laws_FnCellOk.f k l0 = some true
end Go.Proofs.YtldmepofbkcmnaaDoor.Pr
