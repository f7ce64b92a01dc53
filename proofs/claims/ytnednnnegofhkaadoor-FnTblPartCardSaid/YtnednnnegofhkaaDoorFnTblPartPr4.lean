/- A part of what the claim of 'FnTblPart' leans on. -/
import Derived.Test.YtnednnnegofhkaaDoorFnTblPartP0
import Derived.Test.YtnednnnegofhkaaDoorFnTblPartP1
import Derived.Test.YtnednnnegofhkaaDoorFnTblPartP3
import Derived.Test.YtnednnnegofhkaaDoorFnTblPartP4
namespace Go.Proofs.YtnednnnegofhkaaDoor.Pr
open Go.RowKit Go.Proofs.YtnednnnegofhkaaDoorW.PrintWords Go.Proofs.YtnednnnegofhkaaDoorW.PrintLast Go.Proofs.YtnednnnegofhkaaDoorW.PrintMore
attribute [local go_sem] max2_int min2_int max_two min_two max_three min_three max_four min_four
set_option linter.unusedVariables false
set_option linter.unusedSimpArgs false
mutual
def laws_FnTblPart.j0 : Nat → Int → Int → Bool → List (S29) → Int → Int → List (S32) → Int → Option (Bool)
  | 0, _, _, _, _, _, _, _, _ => none
  | k + 1, x4, x5, x32, x466000, x466001, x466002, x466003, x466004 => if x32 = true then (some false) else ((spec_TblOk.f k x466000 x466001 x466002 x466003 x466004).bind fun t470 => (if t470 = true then (laws_FnTblPart.l0 k x4 x5 0 0 0 x466000 x466001 x466002 x466003 x466004) else (if x5 = (-1) then ((laws_pwOk.f k).bind fun t471 => (some t471)) else (some false))))
def laws_FnTblPart.l0 : Nat → Int → Int → Int → Int → Int → List (S29) → Int → Int → List (S32) → Int → Option (Bool)
  | 0, _, _, _, _, _, _, _, _, _, _ => none
  | k + 1, x4, x5, x6, x7, x8, x466000, x466001, x466002, x466003, x466004 => if x8 < (x466003.length : Int) then ((impl_TblPart.f k x466000 x466001 x466002 x466003 x466004 x8).bind fun t472 => (if t472 < 0 then (laws_FnTblPart.j2 k x4 x5 x6 x7 x8 t472 true x466000 x466001 x466002 x466003 x466004) else (if t472 > 2 then (laws_FnTblPart.j2 k x4 x5 x6 x7 x8 t472 true x466000 x466001 x466002 x466003 x466004) else (if x8 > 0 then ((impl_TblPart.f k x466000 x466001 x466002 x466003 x466004 (wrap64 (x8 - 1))).bind fun t473 => (laws_FnTblPart.j2 k x4 x5 x6 x7 x8 t472 (decide (t472 < t473)) x466000 x466001 x466002 x466003 x466004)) else (laws_FnTblPart.j2 k x4 x5 x6 x7 x8 t472 false x466000 x466001 x466002 x466003 x466004))))) else (if x6 = x466001 then (if x7 = x466002 then (if x4 < 0 then (some ((x5 == (-1)) == true)) else (some ((x5 == (-1)) == (decide (x4 ≥ (x466003.length : Int)))))) else (some false)) else (some false))
def laws_FnTblPart.j2 : Nat → Int → Int → Int → Int → Int → Int → Bool → List (S29) → Int → Int → List (S32) → Int → Option (Bool)
  | 0, _, _, _, _, _, _, _, _, _, _, _, _ => none
  | k + 1, x4, x5, x6, x7, x8, x9, x68, x466000, x466001, x466002, x466003, x466004 => if x68 = true then (some false) else (if x9 = 0 then (if x9 = 2 then (laws_FnTblPart.l0 k x4 x5 (wrap64 (x6 + 1)) (wrap64 (x7 + 1)) (wrap64 (x8 + 1)) x466000 x466001 x466002 x466003 x466004) else (laws_FnTblPart.l0 k x4 x5 (wrap64 (x6 + 1)) x7 (wrap64 (x8 + 1)) x466000 x466001 x466002 x466003 x466004)) else (if x9 = 2 then (laws_FnTblPart.l0 k x4 x5 x6 (wrap64 (x7 + 1)) (wrap64 (x8 + 1)) x466000 x466001 x466002 x466003 x466004) else (laws_FnTblPart.l0 k x4 x5 x6 x7 (wrap64 (x8 + 1)) x466000 x466001 x466002 x466003 x466004)))
end
def laws_FnTblPart.f (k : Nat) (l0 : List Int) : Option (Bool) := if (l0.length : Int) > 1048576 then (some true) else ((spec_DrawTblPart.f k l0).bind fun bt455 => ((impl_TblPart.f k bt455.1 bt455.2.1 bt455.2.2.1 bt455.2.2.2.1 bt455.2.2.2.2.1 bt455.2.2.2.2.2).bind fun t466 => ((spec_TblPart.f k bt455.1 bt455.2.1 bt455.2.2.1 bt455.2.2.2.1 bt455.2.2.2.2.1 bt455.2.2.2.2.2).bind fun t467 => (if t466 = t467 then ((impl_TblOk.f k bt455.1 bt455.2.1 bt455.2.2.1 bt455.2.2.2.1 bt455.2.2.2.2.1).bind fun t468 => ((spec_TblOk.f k bt455.1 bt455.2.1 bt455.2.2.1 bt455.2.2.2.1 bt455.2.2.2.2.1).bind fun t469 => (laws_FnTblPart.j0 k bt455.2.2.2.2.2 t466 (t468 != t469) bt455.1 bt455.2.1 bt455.2.2.1 bt455.2.2.2.1 bt455.2.2.2.2.1))) else (laws_FnTblPart.j0 k bt455.2.2.2.2.2 t466 true bt455.1 bt455.2.1 bt455.2.2.1 bt455.2.2.2.1 bt455.2.2.2.2.1)))))
theorem laws_FnTblPart.mono_l : ∀ k, (∀ y0 y1 y2 y3 y4 y5 y6 y7, LeO (laws_FnTblPart.j0 k y0 y1 y2 y3 y4 y5 y6 y7) (laws_FnTblPart.j0 (k + 1) y0 y1 y2 y3 y4 y5 y6 y7)) ∧ (∀ y0 y1 y2 y3 y4 y5 y6 y7 y8 y9, LeO (laws_FnTblPart.l0 k y0 y1 y2 y3 y4 y5 y6 y7 y8 y9) (laws_FnTblPart.l0 (k + 1) y0 y1 y2 y3 y4 y5 y6 y7 y8 y9)) ∧ (∀ y0 y1 y2 y3 y4 y5 y6 y7 y8 y9 y10 y11, LeO (laws_FnTblPart.j2 k y0 y1 y2 y3 y4 y5 y6 y7 y8 y9 y10 y11) (laws_FnTblPart.j2 (k + 1) y0 y1 y2 y3 y4 y5 y6 y7 y8 y9 y10 y11))
  | 0 => ⟨fun _ _ _ _ _ _ _ _ r h => by simp [laws_FnTblPart.j0] at h, fun _ _ _ _ _ _ _ _ _ _ r h => by simp [laws_FnTblPart.l0] at h, fun _ _ _ _ _ _ _ _ _ _ _ _ r h => by simp [laws_FnTblPart.j2] at h⟩
  | k + 1 => by
    obtain ⟨ih0, ih1, ih2⟩ := laws_FnTblPart.mono_l k
    refine ⟨?_, ?_, ?_⟩
    · intro y0 y1 y2 y3 y4 y5 y6 y7
      unfold laws_FnTblPart.j0
      repeat' first
      | (with_reducible exact ih0 _ _ _ _ _ _ _ _)
      | (with_reducible exact ih1 _ _ _ _ _ _ _ _ _ _)
      | (with_reducible exact ih2 _ _ _ _ _ _ _ _ _ _ _ _)
      | (with_reducible exact impl_TblOk.mono _ _ _ _ _ _)
      | (with_reducible exact impl_TblPart.mono _ _ _ _ _ _ _)
      | (with_reducible exact laws_pwOk.mono _)
      | (with_reducible exact spec_DrawTblPart.mono _ _)
      | (with_reducible exact spec_TblOk.mono _ _ _ _ _ _)
      | (with_reducible exact spec_TblPart.mono _ _ _ _ _ _ _)
      | (with_reducible exact LeO.refl _)
      | (with_reducible exact LeO.none _)
      | (with_reducible refine LeO.ite ?_ ?_)
      | (with_reducible refine LeO.bind ?_ (fun _ => ?_))
      | exact ih0 _ _ _ _ _ _ _ _
      | exact ih1 _ _ _ _ _ _ _ _ _ _
      | exact ih2 _ _ _ _ _ _ _ _ _ _ _ _
      | exact impl_TblOk.mono _ _ _ _ _ _
      | exact impl_TblPart.mono _ _ _ _ _ _ _
      | exact laws_pwOk.mono _
      | exact spec_DrawTblPart.mono _ _
      | exact spec_TblOk.mono _ _ _ _ _ _
      | exact spec_TblPart.mono _ _ _ _ _ _ _
      | exact LeO.none _
      | refine LeO.ite ?_ ?_
      | refine LeO.bind ?_ (fun _ => ?_)
    · intro y0 y1 y2 y3 y4 y5 y6 y7 y8 y9
      unfold laws_FnTblPart.l0
      repeat' first
      | (with_reducible exact ih0 _ _ _ _ _ _ _ _)
      | (with_reducible exact ih1 _ _ _ _ _ _ _ _ _ _)
      | (with_reducible exact ih2 _ _ _ _ _ _ _ _ _ _ _ _)
      | (with_reducible exact impl_TblOk.mono _ _ _ _ _ _)
      | (with_reducible exact impl_TblPart.mono _ _ _ _ _ _ _)
      | (with_reducible exact laws_pwOk.mono _)
      | (with_reducible exact spec_DrawTblPart.mono _ _)
      | (with_reducible exact spec_TblOk.mono _ _ _ _ _ _)
      | (with_reducible exact spec_TblPart.mono _ _ _ _ _ _ _)
      | (with_reducible exact LeO.refl _)
      | (with_reducible exact LeO.none _)
      | (with_reducible refine LeO.ite ?_ ?_)
      | (with_reducible refine LeO.bind ?_ (fun _ => ?_))
      | exact ih0 _ _ _ _ _ _ _ _
      | exact ih1 _ _ _ _ _ _ _ _ _ _
      | exact ih2 _ _ _ _ _ _ _ _ _ _ _ _
      | exact impl_TblOk.mono _ _ _ _ _ _
      | exact impl_TblPart.mono _ _ _ _ _ _ _
      | exact laws_pwOk.mono _
      | exact spec_DrawTblPart.mono _ _
      | exact spec_TblOk.mono _ _ _ _ _ _
      | exact spec_TblPart.mono _ _ _ _ _ _ _
      | exact LeO.none _
      | refine LeO.ite ?_ ?_
      | refine LeO.bind ?_ (fun _ => ?_)
    · intro y0 y1 y2 y3 y4 y5 y6 y7 y8 y9 y10 y11
      unfold laws_FnTblPart.j2
      repeat' first
      | (with_reducible exact ih0 _ _ _ _ _ _ _ _)
      | (with_reducible exact ih1 _ _ _ _ _ _ _ _ _ _)
      | (with_reducible exact ih2 _ _ _ _ _ _ _ _ _ _ _ _)
      | (with_reducible exact impl_TblOk.mono _ _ _ _ _ _)
      | (with_reducible exact impl_TblPart.mono _ _ _ _ _ _ _)
      | (with_reducible exact laws_pwOk.mono _)
      | (with_reducible exact spec_DrawTblPart.mono _ _)
      | (with_reducible exact spec_TblOk.mono _ _ _ _ _ _)
      | (with_reducible exact spec_TblPart.mono _ _ _ _ _ _ _)
      | (with_reducible exact LeO.refl _)
      | (with_reducible exact LeO.none _)
      | (with_reducible refine LeO.ite ?_ ?_)
      | (with_reducible refine LeO.bind ?_ (fun _ => ?_))
      | exact ih0 _ _ _ _ _ _ _ _
      | exact ih1 _ _ _ _ _ _ _ _ _ _
      | exact ih2 _ _ _ _ _ _ _ _ _ _ _ _
      | exact impl_TblOk.mono _ _ _ _ _ _
      | exact impl_TblPart.mono _ _ _ _ _ _ _
      | exact laws_pwOk.mono _
      | exact spec_DrawTblPart.mono _ _
      | exact spec_TblOk.mono _ _ _ _ _ _
      | exact spec_TblPart.mono _ _ _ _ _ _ _
      | exact LeO.none _
      | refine LeO.ite ?_ ?_
      | refine LeO.bind ?_ (fun _ => ?_)
theorem laws_FnTblPart.mono : ∀ a0 k, LeO (laws_FnTblPart.f k a0) (laws_FnTblPart.f (k + 1) a0) := by
  intro a0 k
  obtain ⟨ih0, ih1, ih2⟩ := laws_FnTblPart.mono_l k
  unfold laws_FnTblPart.f
  repeat' first
      | (with_reducible exact ih0 _ _ _ _ _ _ _ _)
      | (with_reducible exact ih1 _ _ _ _ _ _ _ _ _ _)
      | (with_reducible exact ih2 _ _ _ _ _ _ _ _ _ _ _ _)
      | (with_reducible exact impl_TblOk.mono _ _ _ _ _ _)
      | (with_reducible exact impl_TblPart.mono _ _ _ _ _ _ _)
      | (with_reducible exact laws_pwOk.mono _)
      | (with_reducible exact spec_DrawTblPart.mono _ _)
      | (with_reducible exact spec_TblOk.mono _ _ _ _ _ _)
      | (with_reducible exact spec_TblPart.mono _ _ _ _ _ _ _)
      | (with_reducible exact LeO.refl _)
      | (with_reducible exact LeO.none _)
      | (with_reducible refine LeO.ite ?_ ?_)
      | (with_reducible refine LeO.bind ?_ (fun _ => ?_))
      | exact ih0 _ _ _ _ _ _ _ _
      | exact ih1 _ _ _ _ _ _ _ _ _ _
      | exact ih2 _ _ _ _ _ _ _ _ _ _ _ _
      | exact impl_TblOk.mono _ _ _ _ _ _
      | exact impl_TblPart.mono _ _ _ _ _ _ _
      | exact laws_pwOk.mono _
      | exact spec_DrawTblPart.mono _ _
      | exact spec_TblOk.mono _ _ _ _ _ _
      | exact spec_TblPart.mono _ _ _ _ _ _ _
      | exact LeO.none _
      | refine LeO.ite ?_ ?_
      | refine LeO.bind ?_ (fun _ => ?_)
def laws_FnTblPart.T5 : Bool × List (List Nat × List Nat) := (true, [([], []), ([], []), ([], []), ([1, 2], [1, 2]), ([0, 3], [0, 3]), ([4, 3], [4]), ([5], [5]), ([6, 5, 5], [5, 6]), ([5], [5]), ([8, 7, 5], [5, 8]), ([7, 9, 5], [5, 7, 9]), ([5, 10], [5, 10])])
def laws_FnTblPart.B5 : List Nat := [0, 0, 0, 6, 15, 31, 63, 127, 63, 511, 1023, 2047]
theorem laws_FnTblPart.tab5 : rtab .any (opsOf Tryd.f4 5) = laws_FnTblPart.T5 := by kernel_rfl
theorem laws_FnTblPart.bits5 : waitsOk laws_FnTblPart.T5.2 laws_FnTblPart.B5 = true := by kernel_rfl
abbrev m4_0 : Array Bool := #[false, false, false, false, false, false, false, false, false, false, false, false]
abbrev m4_1 : Array Bool := #[true, false, false, false, false, false, false, false, false, false, false, false]
abbrev m4_2 : Array Bool := #[true, false, true, false, false, false, false, false, false, false, false, false]
abbrev m4_3 : Array Bool := #[true, true, true, false, false, false, false, false, false, false, false, false]
abbrev m4_4 : Array Bool := #[true, true, true, true, false, false, false, false, false, false, false, false]
abbrev m4_5 : Array Bool := #[true, true, true, true, true, false, false, false, false, false, false, false]
abbrev m4_6 : Array Bool := #[true, true, true, true, true, true, false, false, false, false, false, false]
abbrev m4_7 : Array Bool := #[true, true, true, true, true, true, true, false, false, false, false, false]
abbrev m4_8 : Array Bool := #[true, true, true, true, true, true, true, false, true, false, false, false]
abbrev m4_9 : Array Bool := #[true, true, true, true, true, true, true, true, true, false, false, false]
abbrev m4_10 : Array Bool := #[true, true, true, true, true, true, true, true, true, true, false, false]
abbrev m4_11 : Array Bool := #[true, true, true, true, true, true, true, true, true, true, true, false]
abbrev m4_12 : Array Bool := #[true, true, true, true, true, true, true, true, true, true, true, true]
abbrev m4_13 : Array Bool := #[true, true, true, true, true, true, true, true, false, false, false, false]
theorem bq4_ {w : World} {g : Nat} {t : TypeId} {cs : Array Value} {v : Value} (h : w.heap[g]? = some (.cells cs t (0, 0))) (i : Nat) (e : cs[i]? = some v) : w.cell? ⟨g, i, none⟩ = some v := (blk_cell h i).trans e
abbrev qa4 := @Aside0.mk
abbrev qb4 := @pw_below_drewN
abbrev qc4 := @blk_frozen
abbrev qd4 := @below_drew1
abbrev qe4 := @below_alloc
abbrev qf4 := @below_set
abbrev qg4 := @Kd.R_alloc
abbrev qh4 := @Kd.R_drewN
abbrev qi4 := @Kd.S_alloc
abbrev qj4 := @Kd.S_drewN
abbrev qk4 := @Kd.R_drew
abbrev ql4 := @Kd.S_drew
set_option maxHeartbeats 8000000 in
set_option maxRecDepth 100000 in
theorem laws_FnTblPart.calls (k : Nat) (A0 : Option Addr) (c0 : Nat) (l0 : List Int) (r : Bool) (w : World) (hr0 : Kd.C (Kd.int .u8) w A0 l0.length l0) (hc0 : l0.length ≤ c0) (h : laws_FnTblPart.f k l0 = some r) :
  Calls Tryd.prog 4 #[.slice A0 l0.length c0] w fun e w' => e = .returned (.bool r) ∧ Below w.heap.size w w' := by
 have hu26 := Tryd.underlying26
 have HR0 := qa4 hr0
 have HC0 := qa4 hc0
 clear hr0 hc0
 have HB := qa4 (Below.refl w.heap.size w)
 have H := h
 unfold laws_FnTblPart.f at H
 clear h
 by_cases c2 : (l0.length : Int) > 1048576
 ·rw [if_pos c2] at H
  have aU : decide (1048576 < (l0.length : Int)) = true := decide_eq_true c2
  have aV : decide (1048576 < l0.length) = true := decide_eq_true (by omega)
  clear c2
  obtain rfl := Option.some.inj H
  go_enter Tryd.func4, Tryd.ntmps4
  go_wp2
  go_ret
  exact ⟨by first | rfl | (simp [errW_none, errW_some] <;> rfl) | (simp [*, errW_none, errW_some] <;> rfl), by repeat (first | (with_reducible first | exact HB.out | apply qe4 | apply qb4 | apply qd4) | exact HB.out)⟩
 ·rw [if_neg c2] at H
  have aU : decide (1048576 < (l0.length : Int)) = false := decide_eq_false c2
  have aV : decide (1048576 < l0.length) = false := decide_eq_false (by omega)
  clear c2
  replace H := Option.bind_eq_some_iff.mp H
  obtain ⟨⟨ae, ag, ah, af, ai, ap⟩, A30, H⟩ := H
  (try dsimp only at H)
  have A3 := qa4 A30
  clear A30
  replace H := Option.bind_eq_some_iff.mp H
  obtain ⟨t466, A40, H⟩ := H
  (try dsimp only at H)
  have A4 := qa4 A40
  clear A40
  have HC5 := qa4 H
  clear H
  go_enter Tryd.func4, Tryd.ntmps4
  go_upto_region 5 with (first | ((with_reducible refine gate_callee (f := 10) rfl ?_); refine goesL_ (some 15) rfl rfl Tryd.func10 (by kernel_rfl) rfl #[.slice A0 l0.length c0] rfl (by (try simp only [List.map_toArray, List.map_cons, List.map_nil]); first | done | rfl | (simp only [List.length_drop, List.length_take]; rfl)) ?_; (with_reducible refine (spec_DrawTblPart.calls k _ _ l0 ae ag ah af ai ap _ ?side1 ?side2 A3.out).mono ?_); (case side1 => repeat (first | exact HR0.out | (with_reducible refine Kd.C_alloc ?_ _) | (with_reducible refine Kd.C_drewN ?_ _) | (with_reducible refine Kd.C_drew ?_))); (case side2 => exact HC0.out); rintro e w6 ⟨v456, v461, rfl, ho0, ho1, hb⟩; refine ⟨_, rfl, ?_⟩; have n0_ := qa4 (Kd.R_lower ho0 (below_size (by repeat (first | (with_reducible first | exact HB.out | apply qe4 | apply qb4 | apply qd4) | exact HB.out)))); have n1_ := qa4 (Kd.S_lower ho1 (below_size (by repeat (first | (with_reducible first | exact HB.out | apply qe4 | apply qb4 | apply qd4) | exact HB.out)))); have n2_ := qa4 (below_step (by repeat (first | (with_reducible first | exact HB.out | apply qe4 | apply qb4 | apply qd4) | exact HB.out)) hb); have aj := n0_; have ak := n1_; replace HB := n2_; clear n0_ n1_ n2_; (try clear hb hk hi); (try clear ho0); (try clear ho1)) | ((with_reducible refine gate_dst (N := 3) rfl ?_); (try (refine gate_guard (by rfl) ?_; dsimp only)); refine box_event ?hg (N := 3) ?hd (cs := #[.slice none 0 0, .int .i64 0, .int .i64 0, .slice none 0 0, .int .i64 0]) (t := 26) ?hr ?_; (case hd => rfl); (case hg => rfl); (case hr => go_simp <;> rfl); intro ad hg w7 hbox hb; have n0_ := qa4 (Kd.R_below (by (with_reducible repeat (first | apply qg4 | apply qh4 | apply qk4)); exact aj.out) hb); have n1_ := qa4 (Kd.S_below (by (with_reducible repeat (first | apply qi4 | apply qj4 | apply ql4)); exact ak.out) hb); have n2_ := qa4 (below_step (by repeat (first | (with_reducible first | exact HB.out | apply qe4 | apply qb4 | apply qd4) | exact HB.out)) hb); have n3_ := qa4 (hbox); have n4_ := qa4 ((by rw [hg]; exact (below_size (by repeat (first | (with_reducible first | exact HB.out | apply qe4 | apply qb4 | apply qd4) | exact HB.out))) : w.heap.size ≤ ad)); have n5_ := qa4 n4_.out; replace aj := n0_; replace ak := n1_; replace HB := n2_; have aa := n3_; have GW465 := n4_; have al := n5_; clear n0_ n1_ n2_ n3_ n4_ n5_; clear hb hbox hg; obtain ⟨Ao8, co8, eo8⟩ := Kd.R_slice aj.out; subst eo8; have aI := bq4_ aa.out 0 rfl; have aF := bq4_ aa.out 1 rfl; have aJ := bq4_ aa.out 2 rfl; have aG := bq4_ aa.out 3 rfl; have aC := bq4_ aa.out 4 rfl; have aE := qc4 aa.out 0; have aA := qc4 aa.out 1; have aB := qc4 aa.out 2; have aD := qc4 aa.out 3; have aH := qc4 aa.out 4; obtain ⟨an, am, bG⟩ := Kd.S_slice ak.out; subst bG) | ((with_reducible refine gate_callee (f := 11) rfl ?_); refine goesL_ (some 20) rfl rfl Tryd.func11 (by kernel_rfl) rfl #[.agg #[.slice Ao8 ae.length co8, .int .i64 ag, .int .i64 ah, .slice an af.length am, .int .i64 ai], .int .i64 ap] rfl (by (try simp only [List.map_toArray, List.map_cons, List.map_nil]); first | done | rfl | (simp only [List.length_drop, List.length_take]; rfl)) ?_; (with_reducible refine (impl_TblPart.calls k _ _ ae ag ah _ _ af ai ap t466 _ ?side1 ?side2 ?side3 ?side4 A4.out).mono ?_); (case side1 => refine (Kd.R_reads' (e := 29) (base := w.heap.size) (ok := fun k_ => True) (n := ae.length) (c := co8) ?_).2.2; exact (by (with_reducible repeat (first | apply qg4 | apply qh4 | apply qk4)); exact (Kd.R_mono (Kd.R_far (p := ⟨ad, 4, none⟩) (Kd.R_far (p := ⟨ad, 3, none⟩) (Kd.R_far (p := ⟨ad, 2, none⟩) (Kd.R_far (p := ⟨ad, 1, none⟩) (Kd.R_far (p := ⟨ad, 0, none⟩) (Kd.R_types aj.out aa.out (by decide)) (fun _ hk => hk.2) (.slice Ao8 ae.length co8)) (fun _ hk => hk.2) (.int .i64 ag)) (fun _ hk => hk.2) (.int .i64 ah)) (fun _ hk => hk.2) (.slice an af.length am)) (fun _ hk => hk.2) (.int .i64 ai)) (fun _ h_ => h_.1)))); (case side2 => exact (Kd.R_reads' aj.out).2.1); (case side3 => refine (Kd.S_reads' (e := 32) (base := w.heap.size) (ok := fun k_ => True) (n := af.length) (c := am) ?_).2.2; exact (by (with_reducible repeat (first | apply qi4 | apply qj4 | apply ql4)); exact (Kd.S_mono (Kd.S_far (p := ⟨ad, 4, none⟩) (Kd.S_far (p := ⟨ad, 3, none⟩) (Kd.S_far (p := ⟨ad, 2, none⟩) (Kd.S_far (p := ⟨ad, 1, none⟩) (Kd.S_far (p := ⟨ad, 0, none⟩) (Kd.S_types ak.out aa.out (by decide)) (fun _ hk => hk.2) (.slice Ao8 ae.length co8)) (fun _ hk => hk.2) (.int .i64 ag)) (fun _ hk => hk.2) (.int .i64 ah)) (fun _ hk => hk.2) (.slice an af.length am)) (fun _ hk => hk.2) (.int .i64 ai)) (fun _ h_ => h_.1)))); (case side4 => exact (Kd.S_reads' ak.out).2.1); rintro e w11 ⟨rfl, hb⟩; refine ⟨_, rfl, ?_⟩; have n0_ := qa4 (Kd.R_below (by (with_reducible repeat (first | apply qg4 | apply qh4 | apply qk4)); exact (Kd.R_mono (Kd.R_far (p := ⟨ad, 4, none⟩) (Kd.R_far (p := ⟨ad, 3, none⟩) (Kd.R_far (p := ⟨ad, 2, none⟩) (Kd.R_far (p := ⟨ad, 1, none⟩) (Kd.R_far (p := ⟨ad, 0, none⟩) (Kd.R_types aj.out aa.out (by decide)) (fun _ hk => hk.2) (.slice Ao8 ae.length co8)) (fun _ hk => hk.2) (.int .i64 ag)) (fun _ hk => hk.2) (.int .i64 ah)) (fun _ hk => hk.2) (.slice an af.length am)) (fun _ hk => hk.2) (.int .i64 ai)) (fun _ h_ => h_.1))) hb); have n1_ := qa4 (Kd.S_below (by (with_reducible repeat (first | apply qi4 | apply qj4 | apply ql4)); exact (Kd.S_mono (Kd.S_far (p := ⟨ad, 4, none⟩) (Kd.S_far (p := ⟨ad, 3, none⟩) (Kd.S_far (p := ⟨ad, 2, none⟩) (Kd.S_far (p := ⟨ad, 1, none⟩) (Kd.S_far (p := ⟨ad, 0, none⟩) (Kd.S_types ak.out aa.out (by decide)) (fun _ hk => hk.2) (.slice Ao8 ae.length co8)) (fun _ hk => hk.2) (.int .i64 ag)) (fun _ hk => hk.2) (.int .i64 ah)) (fun _ hk => hk.2) (.slice an af.length am)) (fun _ hk => hk.2) (.int .i64 ai)) (fun _ h_ => h_.1))) hb); have n2_ := qa4 (blk_below (g := ad) (o := .cells #[.slice Ao8 ae.length co8, .int .i64 ag, .int .i64 ah, .slice an af.length am, .int .i64 ai] 26 (0, 0)) (by (with_reducible repeat (first | apply blk_drewN | apply blk_drew | apply blk_alloc)); refine blk_put (cs := #[.slice Ao8 ae.length co8, .int .i64 ag, .int .i64 ah, .slice an af.length am, .int .i64 0]) ?_ 4 _ rfl; refine blk_put (cs := #[.slice Ao8 ae.length co8, .int .i64 ag, .int .i64 ah, .slice none 0 0, .int .i64 0]) ?_ 3 _ rfl; refine blk_put (cs := #[.slice Ao8 ae.length co8, .int .i64 ag, .int .i64 0, .slice none 0 0, .int .i64 0]) ?_ 2 _ rfl; refine blk_put (cs := #[.slice Ao8 ae.length co8, .int .i64 0, .int .i64 0, .slice none 0 0, .int .i64 0]) ?_ 1 _ rfl; refine blk_put (cs := #[.slice none 0 0, .int .i64 0, .int .i64 0, .slice none 0 0, .int .i64 0]) ?_ 0 _ rfl; (with_reducible repeat (first | apply blk_drewN | apply blk_drew | apply blk_alloc)); exact aa.out) hb); have n3_ := qa4 (below_step (by repeat (first | (with_reducible first | exact HB.out | apply qe4 | apply qb4 | apply qd4 | refine qf4 ?_ al.out) | exact HB.out)) hb); replace aj := n0_; replace ak := n1_; replace aa := n2_; replace HB := n3_; clear n0_ n1_ n2_ n3_; (try clear hb hk hi)))
  (try simp only [Act.put, qa_, qb_, qc_])
  go_cut [32] (fun v32 wc => ∃ (kq : Nat) (ay : Bool), v32 = .bool ay ∧ Aside0 (laws_FnTblPart.j0 kq ap t466 ay ae ag ah af ai = some r) ∧ Aside0 (kq ≤ k) ∧ Aside0 (Kd.R k29 29 wc w.heap.size (fun _ => True) (.slice Ao8 ae.length co8) ae) ∧ Aside0 (Kd.S k32 32 wc w.heap.size (fun _ => True) (.slice an af.length am) af) ∧ Aside0 (wc.heap[ad]? = some (.cells #[(.slice Ao8 ae.length co8), .int .i64 ag, .int .i64 ah, (.slice an af.length am), .int .i64 ai] 26 (0, 0))) ∧ Aside0 (Below w.heap.size w wc))
  case first =>
   have H := HC5.out
   clear HC5
   replace H := Option.bind_eq_some_iff.mp H
   obtain ⟨t467, bq, H⟩ := H
   (try dsimp only at H)
   have A12 := qa4 bq
   clear bq
   by_cases c13 : t466 = t467
   ·rw [if_pos c13] at H
    have au : (t466 == t467) = true := beq_iff_eq.mpr c13
    have az : (t466 != t467) = false := bne_eq_false_iff_eq.mpr c13
    clear c13
    (first | rw [au] | (simp only [i64_w, i32_w]; rw [au]) | skip)
    replace H := Option.bind_eq_some_iff.mp H
    obtain ⟨t468, bp, H⟩ := H
    (try dsimp only at H)
    have A14 := qa4 bp
    clear bp
    replace H := Option.bind_eq_some_iff.mp H
    obtain ⟨t469, bn, H⟩ := H
    (try dsimp only at H)
    have A15 := qa4 bn
    clear bn
    have H' := qa4 H
    clear H
    try go_wp2
    have n0_ := qa4 (qk4 aj.out)
    have n1_ := qa4 (ql4 ak.out)
    have n2_ := qa4 (blk_drew aa.out)
    have n3_ := qa4 (qd4 HB.out)
    replace aj := n0_
    replace ak := n1_
    replace aa := n2_
    replace HB := n3_
    clear n0_ n1_ n2_ n3_
    refine start_ (n := 12) (S := fun w' => w'.cell? ⟨ad, 0, none⟩ = some (.slice Ao8 ae.length co8) ∧ w'.cell? ⟨ad, 1, none⟩ = some (.int .i64 ag) ∧ w'.cell? ⟨ad, 2, none⟩ = some (.int .i64 ah) ∧ w'.cell? ⟨ad, 3, none⟩ = some (.slice an af.length am) ∧ w'.cell? ⟨ad, 4, none⟩ = some (.int .i64 ai)) (ds := []) m4_0 (by kernel_rfl) rfl rfl ⟨(blk_cell aa.out 0).trans rfl, (blk_cell aa.out 1).trans rfl, (blk_cell aa.out 2).trans rfl, (blk_cell aa.out 3).trans rfl, (blk_cell aa.out 4).trans rfl⟩ (fun hHeld => ?_); refine with_tabW laws_FnTblPart.tab5 laws_FnTblPart.bits5 (fun HT_ HW_ => ?_)
    generalize w11.drew = w16 at aj ak aa HB hHeld ⊢
    refine pure_ (i := 0) (N := some 21) (v := ?_) (a' := ?_) m4_1 rfl rfl (any_of HT_.out (by kernel_rfl)) (fun _ _ _ h => h) (Or.inl ⟨by rfl, ?_⟩) ?_ ?_
    rotate_left
    ·intro w'
     go_simp
     with_reducible rfl
    rotate_left
    ·simp only [Act.put, qa_, qb_, qc_, i64_w, i32_w]
     rfl
    refine pure_ (i := 2) (N := some 23) (v := ?_) (a' := ?_) m4_2 rfl rfl (any_of HT_.out (by kernel_rfl)) (fun _ _ _ h => h) (Or.inl ⟨by rfl, ?_⟩) ?_ ?_
    rotate_left
    ·intro w'
     go_simp
     with_reducible rfl
    rotate_left
    ·simp only [Act.put, qa_, qb_, qc_, i64_w, i32_w]
     rfl
    refine take_ (i := 1) (N := some 22) (v := ?_) (a' := ?_) m4_3 rfl rfl (take_ofW HT_.out HW_.out (by kernel_rfl)) (fun _ _ _ h => h) (Or.inl ⟨by rfl, ?_⟩) hHeld ?_ ?_
    rotate_left
    ·rintro w' ⟨s0, s1, s2, s3, s4⟩
     go_simp
     with_reducible rfl
    rotate_left
    ·simp only [Act.put, qa_, qb_, qc_, i64_w, i32_w]
     rfl
    refine one_ (i := 3) (N := some 24) m4_4 rfl rfl (one_of HT_.out (by kernel_rfl)) (by decide) (fun K hK => ?_)
    refine goes_ Tryd.func12 (by kernel_rfl) rfl #[.agg #[.slice Ao8 ae.length co8, .int .i64 ag, .int .i64 ah, .slice an af.length am, .int .i64 ai], .int .i64 ap] (by rfl) rfl rfl (by (try simp only [List.map_toArray, List.map_cons, List.map_nil]); first | done | rfl | (simp only [List.length_drop, List.length_take]; rfl)) ?_
    with_reducible refine (spec_TblPart.calls k _ _ ae ag ah _ _ af ai ap t467 _ ?side1 ?side2 ?side3 ?side4 A12.out).mono ?_
    (case side1 => repeat (first | exact (Kd.R_reads' aj.out).2.2 | (with_reducible refine Kd.C_alloc ?_ _) | (with_reducible refine Kd.C_drewN ?_ _) | (with_reducible refine Kd.C_drew ?_)))
    (case side2 => exact (Kd.R_reads' aj.out).2.1)
    (case side3 => repeat (first | exact (Kd.S_reads' ak.out).2.2 | (with_reducible refine Kd.C_alloc ?_ _) | (with_reducible refine Kd.C_drewN ?_ _) | (with_reducible refine Kd.C_drew ?_)))
    (case side4 => exact (Kd.S_reads' ak.out).2.1)
    rintro e w17 ⟨rfl, hb⟩
    refine ⟨_, rfl, ?_⟩
    have n0_ := qa4 (Kd.R_below (by (with_reducible repeat (first | apply qg4 | apply qh4 | apply qk4)); exact aj.out) hb)
    have n1_ := qa4 (Kd.S_below (by (with_reducible repeat (first | apply qi4 | apply qj4 | apply ql4)); exact ak.out) hb)
    have n2_ := qa4 (blk_below (g := ad) (by (with_reducible repeat (first | apply blk_drewN | apply blk_drew | apply blk_alloc)); exact aa.out) hb)
    have n3_ := qa4 (below_step (by repeat (first | (with_reducible first | exact HB.out | apply qe4 | apply qb4 | apply qd4 | refine qf4 ?_ al.out) | exact HB.out)) hb)
    replace aj := n0_
    replace ak := n1_
    replace aa := n2_
    replace HB := n3_
    clear n0_ n1_ n2_ n3_
    (try clear hb)
    (try clear hb2)
    (try clear hk)
    (try clear hi)
    refine hK.out _ _ ⟨(blk_cell aa.out 0).trans rfl, (blk_cell aa.out 1).trans rfl, (blk_cell aa.out 2).trans rfl, (blk_cell aa.out 3).trans rfl, (blk_cell aa.out 4).trans rfl⟩ (fun hHeld => ?_)
    clear hK K
    refine norm_ (a' := ?_) ?_ ?_
    rotate_left
    ·show Act.put _ (some 24) _ = _
     simp only [Act.put, qa_, qb_, qc_, i64_w, i32_w]
     rfl
    refine pure_ (i := 4) (N := some 25) (v := ?_) (a' := ?_) m4_5 rfl rfl (any_of HT_.out (by kernel_rfl)) (fun _ _ _ h => h) (Or.inl ⟨by rfl, ?_⟩) ?_ ?_
    rotate_left
    ·intro w'
     go_simp
     with_reducible rfl
    rotate_left
    ·simp only [Act.put, qa_, qb_, qc_, i64_w, i32_w]
     rfl
    refine pure_ (i := 5) (N := some 26) (v := ?_) (a' := ?_) m4_6 rfl rfl (any_of HT_.out (by kernel_rfl)) (fun _ _ _ h => h) (Or.inl ⟨by rfl, ?_⟩) ?_ ?_
    rotate_left
    ·intro w'
     go_simp
     with_reducible rfl
    rotate_left
    ·simp only [Act.put, qa_, qb_, qc_, i64_w, i32_w]
     rfl
    refine take_ (i := 6) (N := some 27) (v := ?_) (a' := ?_) m4_7 rfl rfl (take_ofW HT_.out HW_.out (by kernel_rfl)) (fun _ _ _ h => h) (Or.inl ⟨by rfl, ?_⟩) hHeld ?_ ?_
    rotate_left
    ·rintro w' ⟨s0, s1, s2, s3, s4⟩
     go_simp
     with_reducible rfl
    rotate_left
    ·simp only [Act.put, qa_, qb_, qc_, i64_w, i32_w]
     rfl
    refine take_ (i := 8) (N := some 29) (v := ?_) (a' := ?_) m4_8 rfl rfl (take_ofW HT_.out HW_.out (by kernel_rfl)) (fun _ _ _ h => h) (Or.inl ⟨by rfl, ?_⟩) hHeld ?_ ?_
    rotate_left
    ·rintro w' ⟨s0, s1, s2, s3, s4⟩
     go_simp
     with_reducible rfl
    rotate_left
    ·simp only [Act.put, qa_, qb_, qc_, i64_w, i32_w]
     rfl
    refine one_ (i := 7) (N := some 28) m4_9 rfl rfl (one_of HT_.out (by kernel_rfl)) (by decide) (fun K hK => ?_)
    refine goes_ Tryd.func8 (by kernel_rfl) rfl #[.agg #[.slice Ao8 ae.length co8, .int .i64 ag, .int .i64 ah, .slice an af.length am, .int .i64 ai]] (by rfl) rfl rfl (by (try simp only [List.map_toArray, List.map_cons, List.map_nil]); first | done | rfl | (simp only [List.length_drop, List.length_take]; rfl)) ?_
    with_reducible refine (impl_TblOk.calls k _ _ ae ag ah _ _ af ai t468 _ ?side1 ?side2 ?side3 ?side4 A14.out).mono ?_
    (case side1 => repeat (first | exact (Kd.R_reads' aj.out).2.2 | (with_reducible refine Kd.C_alloc ?_ _) | (with_reducible refine Kd.C_drewN ?_ _) | (with_reducible refine Kd.C_drew ?_)))
    (case side2 => exact (Kd.R_reads' aj.out).2.1)
    (case side3 => repeat (first | exact (Kd.S_reads' ak.out).2.2 | (with_reducible refine Kd.C_alloc ?_ _) | (with_reducible refine Kd.C_drewN ?_ _) | (with_reducible refine Kd.C_drew ?_)))
    (case side4 => exact (Kd.S_reads' ak.out).2.1)
    rintro e w18 ⟨rfl, hb⟩
    refine ⟨_, rfl, ?_⟩
    have n0_ := qa4 (Kd.R_below (by (with_reducible repeat (first | apply qg4 | apply qh4 | apply qk4)); exact aj.out) hb)
    have n1_ := qa4 (Kd.S_below (by (with_reducible repeat (first | apply qi4 | apply qj4 | apply ql4)); exact ak.out) hb)
    have n2_ := qa4 (blk_below (g := ad) (by (with_reducible repeat (first | apply blk_drewN | apply blk_drew | apply blk_alloc)); exact aa.out) hb)
    have n3_ := qa4 (below_step (by repeat (first | (with_reducible first | exact HB.out | apply qe4 | apply qb4 | apply qd4 | refine qf4 ?_ al.out) | exact HB.out)) hb)
    replace aj := n0_
    replace ak := n1_
    replace aa := n2_
    replace HB := n3_
    clear n0_ n1_ n2_ n3_
    (try clear hb)
    (try clear hb2)
    (try clear hk)
    (try clear hi)
    refine hK.out _ _ ⟨(blk_cell aa.out 0).trans rfl, (blk_cell aa.out 1).trans rfl, (blk_cell aa.out 2).trans rfl, (blk_cell aa.out 3).trans rfl, (blk_cell aa.out 4).trans rfl⟩ (fun hHeld => ?_)
    clear hK K
    refine norm_ (a' := ?_) ?_ ?_
    rotate_left
    ·show Act.put _ (some 28) _ = _
     simp only [Act.put, qa_, qb_, qc_, i64_w, i32_w]
     rfl
    refine one_ (i := 9) (N := some 30) m4_10 rfl rfl (one_of HT_.out (by kernel_rfl)) (by decide) (fun K hK => ?_)
    refine goes_ Tryd.func9 (by kernel_rfl) rfl #[.agg #[.slice Ao8 ae.length co8, .int .i64 ag, .int .i64 ah, .slice an af.length am, .int .i64 ai]] (by rfl) rfl rfl (by (try simp only [List.map_toArray, List.map_cons, List.map_nil]); first | done | rfl | (simp only [List.length_drop, List.length_take]; rfl)) ?_
    with_reducible refine (spec_TblOk.calls k _ _ ae ag ah _ _ af ai t469 _ ?side1 ?side2 ?side3 ?side4 A15.out).mono ?_
    (case side1 => repeat (first | exact (Kd.R_reads' aj.out).2.2 | (with_reducible refine Kd.C_alloc ?_ _) | (with_reducible refine Kd.C_drewN ?_ _) | (with_reducible refine Kd.C_drew ?_)))
    (case side2 => exact (Kd.R_reads' aj.out).2.1)
    (case side3 => repeat (first | exact (Kd.S_reads' ak.out).2.2 | (with_reducible refine Kd.C_alloc ?_ _) | (with_reducible refine Kd.C_drewN ?_ _) | (with_reducible refine Kd.C_drew ?_)))
    (case side4 => exact (Kd.S_reads' ak.out).2.1)
    rintro e w19 ⟨rfl, hb⟩
    refine ⟨_, rfl, ?_⟩
    have n0_ := qa4 (Kd.R_below (by (with_reducible repeat (first | apply qg4 | apply qh4 | apply qk4)); exact aj.out) hb)
    have n1_ := qa4 (Kd.S_below (by (with_reducible repeat (first | apply qi4 | apply qj4 | apply ql4)); exact ak.out) hb)
    have n2_ := qa4 (blk_below (g := ad) (by (with_reducible repeat (first | apply blk_drewN | apply blk_drew | apply blk_alloc)); exact aa.out) hb)
    have n3_ := qa4 (below_step (by repeat (first | (with_reducible first | exact HB.out | apply qe4 | apply qb4 | apply qd4 | refine qf4 ?_ al.out) | exact HB.out)) hb)
    replace aj := n0_
    replace ak := n1_
    replace aa := n2_
    replace HB := n3_
    clear n0_ n1_ n2_ n3_
    (try clear hb)
    (try clear hb2)
    (try clear hk)
    (try clear hi)
    refine hK.out _ _ ⟨(blk_cell aa.out 0).trans rfl, (blk_cell aa.out 1).trans rfl, (blk_cell aa.out 2).trans rfl, (blk_cell aa.out 3).trans rfl, (blk_cell aa.out 4).trans rfl⟩ (fun hHeld => ?_)
    clear hK K
    refine norm_ (a' := ?_) ?_ ?_
    rotate_left
    ·show Act.put _ (some 30) _ = _
     simp only [Act.put, qa_, qb_, qc_, i64_w, i32_w]
     rfl
    refine pure_ (i := 10) (N := some 31) (v := ?_) (a' := ?_) m4_11 rfl rfl (any_of HT_.out (by kernel_rfl)) (fun _ _ _ h => h) (Or.inl ⟨by rfl, ?_⟩) ?_ ?_
    rotate_left
    ·intro w'
     go_simp
     with_reducible rfl
    rotate_left
    ·simp only [Act.put, qa_, qb_, qc_, i64_w, i32_w]
     rfl
    refine pure_ (i := 11) (N := some 32) (v := ?_) (a' := ?_) m4_12 rfl rfl (any_of HT_.out (by kernel_rfl)) (fun _ _ _ h => h) (Or.inl ⟨by rfl, ?_⟩) ?_ ?_
    rotate_left
    ·intro w'
     go_simp
     with_reducible rfl
    rotate_left
    ·simp only [Act.put, qa_, qb_, qc_, i64_w, i32_w]
     rfl
    refine done_ (done_of HT_.out (by kernel_rfl)) ?_
    try go_wp2
    go_meet
    case rel => exact ⟨_, ((t468 != t469)), (by first | rfl | (simp; done) | (simp [*]; done)), H', ⟨by first | omega | exact Nat.le_refl _⟩, ⟨by (with_reducible repeat (first | apply qg4 | apply qh4 | apply qk4)); exact aj.out⟩, ⟨by (with_reducible repeat (first | apply qi4 | apply qj4 | apply ql4)); exact ak.out⟩, ⟨by (with_reducible repeat (first | apply blk_drewN | apply blk_drew | apply blk_alloc)); exact aa.out⟩, ⟨by repeat (first | (with_reducible first | exact HB.out | apply qe4 | apply qb4 | apply qd4 | refine qf4 ?_ al.out) | exact HB.out)⟩⟩
   ·rw [if_neg c13] at H
    have au : (t466 == t467) = false := beq_eq_false_iff_ne.mpr c13
    have az : (t466 != t467) = true := bne_iff_ne.mpr c13
    (first | rw [au] | (simp only [i64_w, i32_w]; rw [au]) | skip)
    have H' := qa4 H
    clear H
    try go_wp2
    have n0_ := qa4 (qk4 aj.out)
    have n1_ := qa4 (ql4 ak.out)
    have n2_ := qa4 (blk_drew aa.out)
    have n3_ := qa4 (qd4 HB.out)
    replace aj := n0_
    replace ak := n1_
    replace aa := n2_
    replace HB := n3_
    clear n0_ n1_ n2_ n3_
    refine start_ (n := 12) (S := fun w' => w'.cell? ⟨ad, 0, none⟩ = some (.slice Ao8 ae.length co8) ∧ w'.cell? ⟨ad, 1, none⟩ = some (.int .i64 ag) ∧ w'.cell? ⟨ad, 2, none⟩ = some (.int .i64 ah) ∧ w'.cell? ⟨ad, 3, none⟩ = some (.slice an af.length am) ∧ w'.cell? ⟨ad, 4, none⟩ = some (.int .i64 ai)) (ds := []) m4_0 (by kernel_rfl) rfl rfl ⟨(blk_cell aa.out 0).trans rfl, (blk_cell aa.out 1).trans rfl, (blk_cell aa.out 2).trans rfl, (blk_cell aa.out 3).trans rfl, (blk_cell aa.out 4).trans rfl⟩ (fun hHeld => ?_); refine with_tabW laws_FnTblPart.tab5 laws_FnTblPart.bits5 (fun HT_ HW_ => ?_)
    generalize w11.drew = w20 at aj ak aa HB hHeld ⊢
    refine pure_ (i := 0) (N := some 21) (v := ?_) (a' := ?_) m4_1 rfl rfl (any_of HT_.out (by kernel_rfl)) (fun _ _ _ h => h) (Or.inl ⟨by rfl, ?_⟩) ?_ ?_
    rotate_left
    ·intro w'
     go_simp
     with_reducible rfl
    rotate_left
    ·simp only [Act.put, qa_, qb_, qc_, i64_w, i32_w]
     rfl
    refine pure_ (i := 2) (N := some 23) (v := ?_) (a' := ?_) m4_2 rfl rfl (any_of HT_.out (by kernel_rfl)) (fun _ _ _ h => h) (Or.inl ⟨by rfl, ?_⟩) ?_ ?_
    rotate_left
    ·intro w'
     go_simp
     with_reducible rfl
    rotate_left
    ·simp only [Act.put, qa_, qb_, qc_, i64_w, i32_w]
     rfl
    refine take_ (i := 1) (N := some 22) (v := ?_) (a' := ?_) m4_3 rfl rfl (take_ofW HT_.out HW_.out (by kernel_rfl)) (fun _ _ _ h => h) (Or.inl ⟨by rfl, ?_⟩) hHeld ?_ ?_
    rotate_left
    ·rintro w' ⟨s0, s1, s2, s3, s4⟩
     go_simp
     with_reducible rfl
    rotate_left
    ·simp only [Act.put, qa_, qb_, qc_, i64_w, i32_w]
     rfl
    refine one_ (i := 3) (N := some 24) m4_4 rfl rfl (one_of HT_.out (by kernel_rfl)) (by decide) (fun K hK => ?_)
    refine goes_ Tryd.func12 (by kernel_rfl) rfl #[.agg #[.slice Ao8 ae.length co8, .int .i64 ag, .int .i64 ah, .slice an af.length am, .int .i64 ai], .int .i64 ap] (by rfl) rfl rfl (by (try simp only [List.map_toArray, List.map_cons, List.map_nil]); first | done | rfl | (simp only [List.length_drop, List.length_take]; rfl)) ?_
    with_reducible refine (spec_TblPart.calls k _ _ ae ag ah _ _ af ai ap t467 _ ?side1 ?side2 ?side3 ?side4 A12.out).mono ?_
    (case side1 => repeat (first | exact (Kd.R_reads' aj.out).2.2 | (with_reducible refine Kd.C_alloc ?_ _) | (with_reducible refine Kd.C_drewN ?_ _) | (with_reducible refine Kd.C_drew ?_)))
    (case side2 => exact (Kd.R_reads' aj.out).2.1)
    (case side3 => repeat (first | exact (Kd.S_reads' ak.out).2.2 | (with_reducible refine Kd.C_alloc ?_ _) | (with_reducible refine Kd.C_drewN ?_ _) | (with_reducible refine Kd.C_drew ?_)))
    (case side4 => exact (Kd.S_reads' ak.out).2.1)
    rintro e w21 ⟨rfl, hb⟩
    refine ⟨_, rfl, ?_⟩
    have n0_ := qa4 (Kd.R_below (by (with_reducible repeat (first | apply qg4 | apply qh4 | apply qk4)); exact aj.out) hb)
    have n1_ := qa4 (Kd.S_below (by (with_reducible repeat (first | apply qi4 | apply qj4 | apply ql4)); exact ak.out) hb)
    have n2_ := qa4 (blk_below (g := ad) (by (with_reducible repeat (first | apply blk_drewN | apply blk_drew | apply blk_alloc)); exact aa.out) hb)
    have n3_ := qa4 (below_step (by repeat (first | (with_reducible first | exact HB.out | apply qe4 | apply qb4 | apply qd4 | refine qf4 ?_ al.out) | exact HB.out)) hb)
    replace aj := n0_
    replace ak := n1_
    replace aa := n2_
    replace HB := n3_
    clear n0_ n1_ n2_ n3_
    (try clear hb)
    (try clear hb2)
    (try clear hk)
    (try clear hi)
    refine hK.out _ _ ⟨(blk_cell aa.out 0).trans rfl, (blk_cell aa.out 1).trans rfl, (blk_cell aa.out 2).trans rfl, (blk_cell aa.out 3).trans rfl, (blk_cell aa.out 4).trans rfl⟩ (fun hHeld => ?_)
    clear hK K
    refine norm_ (a' := ?_) ?_ ?_
    rotate_left
    ·show Act.put _ (some 24) _ = _
     simp only [Act.put, qa_, qb_, qc_, i64_w, i32_w]
     rfl
    refine pure_ (i := 4) (N := some 25) (v := ?_) (a' := ?_) m4_5 rfl rfl (any_of HT_.out (by kernel_rfl)) (fun _ _ _ h => h) (Or.inl ⟨by rfl, ?_⟩) ?_ ?_
    rotate_left
    ·intro w'
     go_simp
     with_reducible rfl
    rotate_left
    ·simp only [Act.put, qa_, qb_, qc_, i64_w, i32_w]
     rfl
    refine pure_ (i := 5) (N := some 26) (v := ?_) (a' := ?_) m4_6 rfl rfl (any_of HT_.out (by kernel_rfl)) (fun _ _ _ h => h) (Or.inl ⟨by rfl, ?_⟩) ?_ ?_
    rotate_left
    ·intro w'
     go_simp
     with_reducible rfl
    rotate_left
    ·simp only [Act.put, qa_, qb_, qc_, i64_w, i32_w]
     rfl
    refine pure_ (i := 6) (N := some 27) (v := undef) (a' := ?_) m4_7 rfl rfl (any_of HT_.out (by kernel_rfl)) (fun _ _ _ h => h) (Or.inr ⟨by rfl, rfl⟩) ?_ ?_
    rotate_left
    ·simp only [Act.put, qa_, qb_, qc_, i64_w, i32_w]
     rfl
    refine pure_ (i := 7) (N := some 28) (v := undef) (a' := ?_) m4_13 rfl rfl (any_of HT_.out (by kernel_rfl)) (fun _ _ _ h => h) (Or.inr ⟨by rfl, rfl⟩) ?_ ?_
    rotate_left
    ·simp only [Act.put, qa_, qb_, qc_, i64_w, i32_w]
     rfl
    refine pure_ (i := 8) (N := some 29) (v := undef) (a' := ?_) m4_9 rfl rfl (any_of HT_.out (by kernel_rfl)) (fun _ _ _ h => h) (Or.inr ⟨by rfl, rfl⟩) ?_ ?_
    rotate_left
    ·simp only [Act.put, qa_, qb_, qc_, i64_w, i32_w]
     rfl
    refine pure_ (i := 9) (N := some 30) (v := undef) (a' := ?_) m4_10 rfl rfl (any_of HT_.out (by kernel_rfl)) (fun _ _ _ h => h) (Or.inr ⟨by rfl, rfl⟩) ?_ ?_
    rotate_left
    ·simp only [Act.put, qa_, qb_, qc_, i64_w, i32_w]
     rfl
    refine pure_ (i := 10) (N := some 31) (v := undef) (a' := ?_) m4_11 rfl rfl (any_of HT_.out (by kernel_rfl)) (fun _ _ _ h => h) (Or.inr ⟨by rfl, rfl⟩) ?_ ?_
    rotate_left
    ·simp only [Act.put, qa_, qb_, qc_, i64_w, i32_w]
     rfl
    refine pure_ (i := 11) (N := some 32) (v := ?_) (a' := ?_) m4_12 rfl rfl (any_of HT_.out (by kernel_rfl)) (fun _ _ _ h => h) (Or.inl ⟨by rfl, ?_⟩) ?_ ?_
    rotate_left
    ·intro w'
     go_simp
     with_reducible rfl
    rotate_left
    ·simp only [Act.put, qa_, qb_, qc_, i64_w, i32_w]
     rfl
    refine done_ (done_of HT_.out (by kernel_rfl)) ?_
    try go_wp2
    go_meet
    case rel => exact ⟨_, (true), (by first | rfl | (simp; done) | (simp [*]; done)), H', ⟨by first | omega | exact Nat.le_refl _⟩, ⟨by (with_reducible repeat (first | apply qg4 | apply qh4 | apply qk4)); exact aj.out⟩, ⟨by (with_reducible repeat (first | apply qi4 | apply qj4 | apply ql4)); exact ak.out⟩, ⟨by (with_reducible repeat (first | apply blk_drewN | apply blk_drew | apply blk_alloc)); exact aa.out⟩, ⟨by repeat (first | (with_reducible first | exact HB.out | apply qe4 | apply qb4 | apply qd4 | refine qf4 ?_ al.out) | exact HB.out)⟩⟩
  case rest =>
   clear HC5
   try clear c1
   try clear c2
   try clear aU
   try clear aV
   try clear p2
   try clear c4
   try clear c8
   try clear c9
   try clear c10
   try clear c11
   try clear c12
   try clear c13
   try clear au
   try clear az
   try clear aI
   try clear aF
   try clear aJ
   try clear aG
   try clear aC
   try clear aE
   try clear aA
   try clear aB
   try clear aD
   try clear aH
   obtain ⟨kq, ay, rfl, HA, HJ4, ab, ac, aa, HB⟩ := hcut
   cases kq with
   | zero => exact absurd HA.out (by simp [laws_FnTblPart.j0])
   | succ kj4 =>
    have H := HA.out
    clear HA
    simp only [laws_FnTblPart.j0] at H
    by_cases c22 : ay = true
    ·subst c22
     have H1 : (some false) = some r := by rw [if_pos rfl] at H; exact H
     clear H
     have H := H1
     clear H1
     obtain rfl := Option.some.inj H
     go_wp2
     go_ret
     exact ⟨by first | rfl | (simp [errW_none, errW_some] <;> rfl) | (simp [*, errW_none, errW_some] <;> rfl), by repeat (first | (with_reducible first | exact HB.out | apply qe4 | apply qb4 | apply qd4 | refine qf4 ?_ al.out) | exact HB.out)⟩
    ·replace c22 := Bool.eq_false_iff.mpr c22
     subst c22
     have H1 : ((spec_TblOk.f kj4 ae ag ah af ai).bind fun t470 => (if t470 = true then (laws_FnTblPart.l0 kj4 ap t466 0 0 0 ae ag ah af ai) else (if t466 = (-1) then ((laws_pwOk.f kj4).bind fun t471 => (some t471)) else (some false)))) = some r := by rw [if_neg (show ¬ (false = true) by decide)] at H; exact H
     clear H
     have H := H1
     clear H1
     replace H := Option.bind_eq_some_iff.mp H
     obtain ⟨t470, bl, H⟩ := H
     (try dsimp only at H)
     have A23 := qa4 bl
     clear bl
     by_cases c24 : t470 = true
     ·subst c24
      have H1 : (laws_FnTblPart.l0 kj4 ap t466 0 0 0 ae ag ah af ai) = some r := by rw [if_pos rfl] at H; exact H
      clear H
      have H := H1
      clear H1
      have H' := qa4 H
      clear H
      have aL := bq4_ aa.out 0 rfl
      have aN := bq4_ aa.out 1 rfl
      have aP := bq4_ aa.out 2 rfl
      have aR := bq4_ aa.out 3 rfl
      have aM := bq4_ aa.out 4 rfl
      have aQ := qc4 aa.out 0
      have aT := qc4 aa.out 1
      have aO := qc4 aa.out 2
      have aS := qc4 aa.out 3
      have aK := qc4 aa.out 4
      go_wp2_with (first | ((with_reducible refine gate_callee (f := 9) rfl ?_); refine goesL_ (some 34) rfl rfl Tryd.func9 (by kernel_rfl) rfl #[.agg #[.slice Ao8 ae.length co8, .int .i64 ag, .int .i64 ah, .slice an af.length am, .int .i64 ai]] rfl (by (try simp only [List.map_toArray, List.map_cons, List.map_nil]); first | done | rfl | (simp only [List.length_drop, List.length_take]; rfl)) ?_; (with_reducible refine (spec_TblOk.calls kj4 _ _ ae ag ah _ _ af ai true _ ?side1 ?side2 ?side3 ?side4 A23.out).mono ?_); (case side1 => repeat (first | exact (Kd.R_reads' ab.out).2.2 | (with_reducible refine Kd.C_alloc ?_ _) | (with_reducible refine Kd.C_drewN ?_ _) | (with_reducible refine Kd.C_drew ?_))); (case side2 => exact (Kd.R_reads' ab.out).2.1); (case side3 => repeat (first | exact (Kd.S_reads' ac.out).2.2 | (with_reducible refine Kd.C_alloc ?_ _) | (with_reducible refine Kd.C_drewN ?_ _) | (with_reducible refine Kd.C_drew ?_))); (case side4 => exact (Kd.S_reads' ac.out).2.1); rintro e w26 ⟨rfl, hb⟩; refine ⟨_, rfl, ?_⟩; have n0_ := qa4 (Kd.R_below (by (with_reducible repeat (first | apply qg4 | apply qh4 | apply qk4)); exact ab.out) hb); have n1_ := qa4 (Kd.S_below (by (with_reducible repeat (first | apply qi4 | apply qj4 | apply ql4)); exact ac.out) hb); have n2_ := qa4 (blk_below (g := ad) (by (with_reducible repeat (first | apply blk_drewN | apply blk_drew | apply blk_alloc)); exact aa.out) hb); have n3_ := qa4 (below_step (by repeat (first | (with_reducible first | exact HB.out | apply qe4 | apply qb4 | apply qd4 | refine qf4 ?_ al.out) | exact HB.out)) hb); replace ab := n0_; replace ac := n1_; replace aa := n2_; replace HB := n3_; clear n0_ n1_ n2_ n3_; (try clear hb hk hi)))
      go_loopg [6, 7, 8] kj4 (fun kq v6 v7 v8 w' => ∃ (aq : Int) (ar : Int) (ao : Int), v6 = .int .i64 aq ∧ v7 = .int .i64 ar ∧ v8 = .int .i64 ao ∧ Aside0 (laws_FnTblPart.l0 kq ap t466 aq ar ao ae ag ah af ai = some r) ∧ Aside0 (kq ≤ kj4) ∧ Aside0 (Kd.R k29 29 w' w.heap.size (fun _ => True) (.slice Ao8 ae.length co8) ae) ∧ Aside0 (Kd.S k32 32 w' w.heap.size (fun _ => True) (.slice an af.length am) af) ∧ Aside0 (w'.heap[ad]? = some (.cells #[(.slice Ao8 ae.length co8), .int .i64 ag, .int .i64 ah, (.slice an af.length am), .int .i64 ai] 26 (0, 0))) ∧ Aside0 (Below w.heap.size w w'))
      case atStart => exact ⟨(0), (0), (0), (by first | rfl | (simp; done) | (simp [*]; done)), (by first | rfl | (simp; done) | (simp [*]; done)), (by first | rfl | (simp; done) | (simp [*]; done)), H', ⟨Nat.le_refl _⟩, ⟨by (with_reducible repeat (first | apply qg4 | apply qh4 | apply qk4)); exact ab.out⟩, ⟨by (with_reducible repeat (first | apply qi4 | apply qj4 | apply ql4)); exact ac.out⟩, ⟨by (with_reducible repeat (first | apply blk_drewN | apply blk_drew | apply blk_alloc)); exact aa.out⟩, ⟨by repeat (first | (with_reducible first | exact HB.out | apply qe4 | apply qb4 | apply qd4 | refine qf4 ?_ al.out) | exact HB.out)⟩⟩
      case round =>
       clear H'
       try clear c1
       try clear c2
       try clear aU
       try clear aV
       try clear p2
       try clear c4
       try clear c8
       try clear c9
       try clear c10
       try clear c11
       try clear c12
       try clear c13
       try clear au
       try clear az
       try clear c22
       try clear c24
       try clear aL
       try clear aN
       try clear aP
       try clear aR
       try clear aM
       try clear aI
       try clear aF
       try clear aJ
       try clear aG
       try clear aC
       try clear aQ
       try clear aT
       try clear aO
       try clear aS
       try clear aK
       try clear aE
       try clear aA
       try clear aB
       try clear aD
       try clear aH
       try clear p2
       obtain ⟨aq, ar, ao, rfl, rfl, rfl, HA, HK2, ab, ac, aa, HB⟩ := hrel
       cases gk with
       | zero => exact absurd HA.out (by simp [laws_FnTblPart.l0])
       | succ k2 =>
        have H := HA.out
        clear HA
        simp only [laws_FnTblPart.l0] at H
        by_cases c27 : ao < (af.length : Int)
        ·rw [if_pos c27] at H
         have aX : decide (ao < (af.length : Int)) = true := decide_eq_true c27
         clear c27
         replace H := Option.bind_eq_some_iff.mp H
         obtain ⟨t472, bo, H⟩ := H
         (try dsimp only at H)
         have A28 := qa4 bo
         clear bo
         have aW := qa4 H
         clear H
         have bd := bq4_ aa.out 0 rfl
         have bk := bq4_ aa.out 1 rfl
         have a7 := bq4_ aa.out 2 rfl
         have bh := bq4_ aa.out 3 rfl
         have a9 := bq4_ aa.out 4 rfl
         have bi := qc4 aa.out 0
         have a5 := qc4 aa.out 1
         have a3 := qc4 aa.out 2
         have a2 := qc4 aa.out 3
         have bg := qc4 aa.out 4
         go_upto_region 14 with (first | ((with_reducible refine gate_callee (f := 11) rfl ?_); refine goesL_ (some 50) rfl rfl Tryd.func11 (by kernel_rfl) rfl #[.agg #[.slice Ao8 ae.length co8, .int .i64 ag, .int .i64 ah, .slice an af.length am, .int .i64 ai], .int .i64 ao] rfl (by (try simp only [List.map_toArray, List.map_cons, List.map_nil]); first | done | rfl | (simp only [List.length_drop, List.length_take]; rfl)) ?_; (with_reducible refine (impl_TblPart.calls k2 _ _ ae ag ah _ _ af ai ao t472 _ ?side1 ?side2 ?side3 ?side4 A28.out).mono ?_); (case side1 => repeat (first | exact (Kd.R_reads' ab.out).2.2 | (with_reducible refine Kd.C_alloc ?_ _) | (with_reducible refine Kd.C_drewN ?_ _) | (with_reducible refine Kd.C_drew ?_))); (case side2 => exact (Kd.R_reads' ab.out).2.1); (case side3 => repeat (first | exact (Kd.S_reads' ac.out).2.2 | (with_reducible refine Kd.C_alloc ?_ _) | (with_reducible refine Kd.C_drewN ?_ _) | (with_reducible refine Kd.C_drew ?_))); (case side4 => exact (Kd.S_reads' ac.out).2.1); rintro e w31 ⟨rfl, hb⟩; refine ⟨_, rfl, ?_⟩; have n0_ := qa4 (Kd.R_below (by (with_reducible repeat (first | apply qg4 | apply qh4 | apply qk4)); exact ab.out) hb); have n1_ := qa4 (Kd.S_below (by (with_reducible repeat (first | apply qi4 | apply qj4 | apply ql4)); exact ac.out) hb); have n2_ := qa4 (blk_below (g := ad) (by (with_reducible repeat (first | apply blk_drewN | apply blk_drew | apply blk_alloc)); exact aa.out) hb); have n3_ := qa4 (below_step (by repeat (first | (with_reducible first | exact HB.out | apply qe4 | apply qb4 | apply qd4 | refine qf4 ?_ al.out) | exact HB.out)) hb); replace ab := n0_; replace ac := n1_; replace aa := n2_; replace HB := n3_; clear n0_ n1_ n2_ n3_; (try clear hb hk hi)))
         (try simp only [Act.put, qa_, qb_, qc_])
         go_cut [68] (fun v68 wc => ∃ (kq : Nat) (ax : Bool), v68 = .bool ax ∧ Aside0 (laws_FnTblPart.j2 kq ap t466 aq ar ao t472 ax ae ag ah af ai = some r) ∧ Aside0 (kq ≤ k2) ∧ Aside0 (Kd.R k29 29 wc w.heap.size (fun _ => True) (.slice Ao8 ae.length co8) ae) ∧ Aside0 (Kd.S k32 32 wc w.heap.size (fun _ => True) (.slice an af.length am) af) ∧ Aside0 (wc.heap[ad]? = some (.cells #[(.slice Ao8 ae.length co8), .int .i64 ag, .int .i64 ah, (.slice an af.length am), .int .i64 ai] 26 (0, 0))) ∧ Aside0 (Below w.heap.size w wc))
         case first =>
          have H := aW.out
          clear aW
          by_cases c32 : t472 < 0
          ·rw [if_pos c32] at H
           have aw : decide (t472 < 0) = true := decide_eq_true c32
           clear c32
           (first | rw [aw] | (simp only [i64_w, i32_w]; rw [aw]) | skip)
           have H' := qa4 H
           clear H
           go_wp2
           go_meet
           case rel => exact ⟨_, (true), (by first | rfl | (simp; done) | (simp [*]; done)), H', ⟨by have := HJ4.out; have := HK2.out; first | omega | exact Nat.le_refl _⟩, ⟨by (with_reducible repeat (first | apply qg4 | apply qh4 | apply qk4)); exact ab.out⟩, ⟨by (with_reducible repeat (first | apply qi4 | apply qj4 | apply ql4)); exact ac.out⟩, ⟨by (with_reducible repeat (first | apply blk_drewN | apply blk_drew | apply blk_alloc)); exact aa.out⟩, ⟨by repeat (first | (with_reducible first | exact HB.out | apply qe4 | apply qb4 | apply qd4 | refine qf4 ?_ al.out) | exact HB.out)⟩⟩
          ·rw [if_neg c32] at H
           have aw : decide (t472 < 0) = false := decide_eq_false c32
           clear c32
           (first | rw [aw] | (simp only [i64_w, i32_w]; rw [aw]) | skip)
           by_cases c33 : t472 > 2
           ·rw [if_pos c33] at H
            have aY : decide (2 < t472) = true := decide_eq_true c33
            clear c33
            have H' := qa4 H
            clear H
            go_wp2
            go_meet
            case rel => exact ⟨_, (true), (by first | rfl | (simp; done) | (simp [*]; done)), H', ⟨by have := HJ4.out; have := HK2.out; first | omega | exact Nat.le_refl _⟩, ⟨by (with_reducible repeat (first | apply qg4 | apply qh4 | apply qk4)); exact ab.out⟩, ⟨by (with_reducible repeat (first | apply qi4 | apply qj4 | apply ql4)); exact ac.out⟩, ⟨by (with_reducible repeat (first | apply blk_drewN | apply blk_drew | apply blk_alloc)); exact aa.out⟩, ⟨by repeat (first | (with_reducible first | exact HB.out | apply qe4 | apply qb4 | apply qd4 | refine qf4 ?_ al.out) | exact HB.out)⟩⟩
           ·rw [if_neg c33] at H
            have aY : decide (2 < t472) = false := decide_eq_false c33
            clear c33
            by_cases c34 : ao > 0
            ·rw [if_pos c34] at H
             have aZ : decide (0 < ao) = true := decide_eq_true c34
             clear c34
             replace H := Option.bind_eq_some_iff.mp H
             obtain ⟨t473, br, H⟩ := H
             (try dsimp only at H)
             have A35 := qa4 br
             clear br
             have H' := qa4 H
             clear H
             have a1 := bq4_ aa.out 0 rfl
             have a6 := bq4_ aa.out 1 rfl
             have bf := bq4_ aa.out 2 rfl
             have a4 := bq4_ aa.out 3 rfl
             have a8 := bq4_ aa.out 4 rfl
             have be := qc4 aa.out 0
             have bj := qc4 aa.out 1
             have bb := qc4 aa.out 2
             have ba := qc4 aa.out 3
             have bc := qc4 aa.out 4
             go_wp2_with (first | (go_at_call 11; (with_reducible refine (impl_TblPart.calls k2 _ _ ae ag ah _ _ af ai (wrap64 (ao - 1)) t473 _ ?side1 ?side2 ?side3 ?side4 A35.out).mono ?_); (case side1 => repeat (first | exact (Kd.R_reads' ab.out).2.2 | (with_reducible refine Kd.C_alloc ?_ _) | (with_reducible refine Kd.C_drewN ?_ _) | (with_reducible refine Kd.C_drew ?_))); (case side2 => exact (Kd.R_reads' ab.out).2.1); (case side3 => repeat (first | exact (Kd.S_reads' ac.out).2.2 | (with_reducible refine Kd.C_alloc ?_ _) | (with_reducible refine Kd.C_drewN ?_ _) | (with_reducible refine Kd.C_drew ?_))); (case side4 => exact (Kd.S_reads' ac.out).2.1); rintro e w37 ⟨rfl, hb⟩; have n0_ := qa4 (Kd.R_below (by (with_reducible repeat (first | apply qg4 | apply qh4 | apply qk4)); exact ab.out) hb); have n1_ := qa4 (Kd.S_below (by (with_reducible repeat (first | apply qi4 | apply qj4 | apply ql4)); exact ac.out) hb); have n2_ := qa4 (blk_below (g := ad) (by (with_reducible repeat (first | apply blk_drewN | apply blk_drew | apply blk_alloc)); exact aa.out) hb); have n3_ := qa4 (below_step (by repeat (first | (with_reducible first | exact HB.out | apply qe4 | apply qb4 | apply qd4 | refine qf4 ?_ al.out) | exact HB.out)) hb); replace ab := n0_; replace ac := n1_; replace aa := n2_; replace HB := n3_; clear n0_ n1_ n2_ n3_; (try clear hb hk hi)))
             go_meet
             case rel => exact ⟨_, (decide (t472 < t473)), (by first | rfl | (simp; done) | (simp [*]; done)), H', ⟨by have := HJ4.out; have := HK2.out; first | omega | exact Nat.le_refl _⟩, ⟨by (with_reducible repeat (first | apply qg4 | apply qh4 | apply qk4)); exact ab.out⟩, ⟨by (with_reducible repeat (first | apply qi4 | apply qj4 | apply ql4)); exact ac.out⟩, ⟨by (with_reducible repeat (first | apply blk_drewN | apply blk_drew | apply blk_alloc)); exact aa.out⟩, ⟨by repeat (first | (with_reducible first | exact HB.out | apply qe4 | apply qb4 | apply qd4 | refine qf4 ?_ al.out) | exact HB.out)⟩⟩
            ·rw [if_neg c34] at H
             have aZ : decide (0 < ao) = false := decide_eq_false c34
             clear c34
             have H' := qa4 H
             clear H
             go_wp2
             go_meet
             case rel => exact ⟨_, (false), (by first | rfl | (simp; done) | (simp [*]; done)), H', ⟨by have := HJ4.out; have := HK2.out; first | omega | exact Nat.le_refl _⟩, ⟨by (with_reducible repeat (first | apply qg4 | apply qh4 | apply qk4)); exact ab.out⟩, ⟨by (with_reducible repeat (first | apply qi4 | apply qj4 | apply ql4)); exact ac.out⟩, ⟨by (with_reducible repeat (first | apply blk_drewN | apply blk_drew | apply blk_alloc)); exact aa.out⟩, ⟨by repeat (first | (with_reducible first | exact HB.out | apply qe4 | apply qb4 | apply qd4 | refine qf4 ?_ al.out) | exact HB.out)⟩⟩
         case rest =>
          clear aW
          try clear c1
          try clear c2
          try clear aU
          try clear aV
          try clear p2
          try clear c3
          try clear c4
          try clear p6
          try clear c8
          try clear c9
          try clear c10
          try clear c11
          try clear c12
          try clear c13
          try clear au
          try clear az
          try clear c22
          try clear c24
          try clear c27
          try clear aX
          try clear c32
          try clear aw
          try clear c33
          try clear aY
          try clear c34
          try clear aZ
          try clear aL
          try clear aN
          try clear aP
          try clear aR
          try clear aM
          try clear bd
          try clear bk
          try clear a7
          try clear bh
          try clear a9
          try clear a1
          try clear a6
          try clear bf
          try clear a4
          try clear a8
          try clear aI
          try clear aF
          try clear aJ
          try clear aG
          try clear aC
          try clear aQ
          try clear aT
          try clear aO
          try clear aS
          try clear aK
          try clear bi
          try clear a5
          try clear a3
          try clear a2
          try clear bg
          try clear be
          try clear bj
          try clear bb
          try clear ba
          try clear bc
          try clear aE
          try clear aA
          try clear aB
          try clear aD
          try clear aH
          try clear p2
          obtain ⟨kq, ax, rfl, HA, av, ab, ac, aa, HB⟩ := hcut
          cases kq with
          | zero => exact absurd HA.out (by simp [laws_FnTblPart.j2])
          | succ kj28 =>
           have H := HA.out
           clear HA
           simp only [laws_FnTblPart.j2] at H
           by_cases c38 : ax = true
           ·subst c38
            have H1 : (some false) = some r := by rw [if_pos rfl] at H; exact H
            clear H
            have H := H1
            clear H1
            obtain rfl := Option.some.inj H
            go_wp2
            go_ret
            exact ⟨by first | rfl | (simp [errW_none, errW_some] <;> rfl) | (simp [*, errW_none, errW_some] <;> rfl), by repeat (first | (with_reducible first | exact HB.out | apply qe4 | apply qb4 | apply qd4 | refine qf4 ?_ al.out) | exact HB.out)⟩
           ·replace c38 := Bool.eq_false_iff.mpr c38
            subst c38
            have H1 : (if t472 = 0 then (if t472 = 2 then (laws_FnTblPart.l0 kj28 ap t466 (wrap64 (aq + 1)) (wrap64 (ar + 1)) (wrap64 (ao + 1)) ae ag ah af ai) else (laws_FnTblPart.l0 kj28 ap t466 (wrap64 (aq + 1)) ar (wrap64 (ao + 1)) ae ag ah af ai)) else (if t472 = 2 then (laws_FnTblPart.l0 kj28 ap t466 aq (wrap64 (ar + 1)) (wrap64 (ao + 1)) ae ag ah af ai) else (laws_FnTblPart.l0 kj28 ap t466 aq ar (wrap64 (ao + 1)) ae ag ah af ai))) = some r := by rw [if_neg (show ¬ (false = true) by decide)] at H; exact H
            clear H
            have H := H1
            clear H1
            by_cases c39 : t472 = 0
            ·rw [if_pos c39] at H
             have bD : (t472 == 0) = true := beq_iff_eq.mpr c39
             have bF : (t472 != 0) = false := bne_eq_false_iff_eq.mpr c39
             clear c39
             by_cases c40 : t472 = 2
             ·rw [if_pos c40] at H
              have bu : (t472 == 2) = true := beq_iff_eq.mpr c40
              have bw : (t472 != 2) = false := bne_eq_false_iff_eq.mpr c40
              clear c40
              have H' := qa4 H
              clear H
              go_wp2
              go_roundg kj28
              case measure => have := HJ4.out; have := HK2.out; have := av.out; omega
              case rel => exact ⟨(wrap64 (aq + 1)), (wrap64 (ar + 1)), (wrap64 (ao + 1)), (by first | rfl | (simp; done) | (simp [*]; done)), (by first | rfl | (simp; done) | (simp [*]; done)), (by first | rfl | (simp; done) | (simp [*]; done)), H', ⟨by have := HJ4.out; have := HK2.out; have := av.out; omega⟩, ⟨by (with_reducible repeat (first | apply qg4 | apply qh4 | apply qk4)); exact ab.out⟩, ⟨by (with_reducible repeat (first | apply qi4 | apply qj4 | apply ql4)); exact ac.out⟩, ⟨by (with_reducible repeat (first | apply blk_drewN | apply blk_drew | apply blk_alloc)); exact aa.out⟩, ⟨by repeat (first | (with_reducible first | exact HB.out | apply qe4 | apply qb4 | apply qd4 | refine qf4 ?_ al.out) | exact HB.out)⟩⟩
             ·rw [if_neg c40] at H
              have bu : (t472 == 2) = false := beq_eq_false_iff_ne.mpr c40
              have bw : (t472 != 2) = true := bne_iff_ne.mpr c40
              have H' := qa4 H
              clear H
              go_wp2
              go_roundg kj28
              case measure => have := HJ4.out; have := HK2.out; have := av.out; omega
              case rel => exact ⟨(wrap64 (aq + 1)), (ar), (wrap64 (ao + 1)), (by first | rfl | (simp; done) | (simp [*]; done)), (by first | rfl | (simp; done) | (simp [*]; done)), (by first | rfl | (simp; done) | (simp [*]; done)), H', ⟨by have := HJ4.out; have := HK2.out; have := av.out; omega⟩, ⟨by (with_reducible repeat (first | apply qg4 | apply qh4 | apply qk4)); exact ab.out⟩, ⟨by (with_reducible repeat (first | apply qi4 | apply qj4 | apply ql4)); exact ac.out⟩, ⟨by (with_reducible repeat (first | apply blk_drewN | apply blk_drew | apply blk_alloc)); exact aa.out⟩, ⟨by repeat (first | (with_reducible first | exact HB.out | apply qe4 | apply qb4 | apply qd4 | refine qf4 ?_ al.out) | exact HB.out)⟩⟩
            ·rw [if_neg c39] at H
             have bD : (t472 == 0) = false := beq_eq_false_iff_ne.mpr c39
             have bF : (t472 != 0) = true := bne_iff_ne.mpr c39
             by_cases c41 : t472 = 2
             ·rw [if_pos c41] at H
              have bC : (t472 == 2) = true := beq_iff_eq.mpr c41
              have bA : (t472 != 2) = false := bne_eq_false_iff_eq.mpr c41
              clear c41
              have H' := qa4 H
              clear H
              go_wp2
              go_roundg kj28
              case measure => have := HJ4.out; have := HK2.out; have := av.out; omega
              case rel => exact ⟨(aq), (wrap64 (ar + 1)), (wrap64 (ao + 1)), (by first | rfl | (simp; done) | (simp [*]; done)), (by first | rfl | (simp; done) | (simp [*]; done)), (by first | rfl | (simp; done) | (simp [*]; done)), H', ⟨by have := HJ4.out; have := HK2.out; have := av.out; omega⟩, ⟨by (with_reducible repeat (first | apply qg4 | apply qh4 | apply qk4)); exact ab.out⟩, ⟨by (with_reducible repeat (first | apply qi4 | apply qj4 | apply ql4)); exact ac.out⟩, ⟨by (with_reducible repeat (first | apply blk_drewN | apply blk_drew | apply blk_alloc)); exact aa.out⟩, ⟨by repeat (first | (with_reducible first | exact HB.out | apply qe4 | apply qb4 | apply qd4 | refine qf4 ?_ al.out) | exact HB.out)⟩⟩
             ·rw [if_neg c41] at H
              have bC : (t472 == 2) = false := beq_eq_false_iff_ne.mpr c41
              have bA : (t472 != 2) = true := bne_iff_ne.mpr c41
              have H' := qa4 H
              clear H
              go_wp2
              go_roundg kj28
              case measure => have := HJ4.out; have := HK2.out; have := av.out; omega
              case rel => exact ⟨(aq), (ar), (wrap64 (ao + 1)), (by first | rfl | (simp; done) | (simp [*]; done)), (by first | rfl | (simp; done) | (simp [*]; done)), (by first | rfl | (simp; done) | (simp [*]; done)), H', ⟨by have := HJ4.out; have := HK2.out; have := av.out; omega⟩, ⟨by (with_reducible repeat (first | apply qg4 | apply qh4 | apply qk4)); exact ab.out⟩, ⟨by (with_reducible repeat (first | apply qi4 | apply qj4 | apply ql4)); exact ac.out⟩, ⟨by (with_reducible repeat (first | apply blk_drewN | apply blk_drew | apply blk_alloc)); exact aa.out⟩, ⟨by repeat (first | (with_reducible first | exact HB.out | apply qe4 | apply qb4 | apply qd4 | refine qf4 ?_ al.out) | exact HB.out)⟩⟩
        ·rw [if_neg c27] at H
         have aX : decide (ao < (af.length : Int)) = false := decide_eq_false c27
         clear c27
         by_cases c42 : aq = ag
         ·rw [if_pos c42] at H
          have bt : (aq == ag) = true := beq_iff_eq.mpr c42
          have bs : (aq != ag) = false := bne_eq_false_iff_eq.mpr c42
          clear c42
          by_cases c43 : ar = ah
          ·rw [if_pos c43] at H
           have bB : (ar == ah) = true := beq_iff_eq.mpr c43
           have bz : (ar != ah) = false := bne_eq_false_iff_eq.mpr c43
           clear c43
           by_cases c44 : ap < 0
           ·rw [if_pos c44] at H
            have bv : decide (ap < 0) = true := decide_eq_true c44
            clear c44
            obtain rfl := Option.some.inj H
            have bL := bq4_ aa.out 0 rfl
            have cD := bq4_ aa.out 1 rfl
            have cp := bq4_ aa.out 2 rfl
            have bZ := bq4_ aa.out 3 rfl
            have ch := bq4_ aa.out 4 rfl
            have cy := qc4 aa.out 0
            have cn := qc4 aa.out 1
            have ca := qc4 aa.out 2
            have bT := qc4 aa.out 3
            have bQ := qc4 aa.out 4
            go_wp2
            go_ret
            exact ⟨by first | rfl | (simp [errW_none, errW_some] <;> rfl) | (simp [*, errW_none, errW_some] <;> rfl), by repeat (first | (with_reducible first | exact HB.out | apply qe4 | apply qb4 | apply qd4 | refine qf4 ?_ al.out) | exact HB.out)⟩
           ·rw [if_neg c44] at H
            have bv : decide (ap < 0) = false := decide_eq_false c44
            clear c44
            obtain rfl := Option.some.inj H
            have cf := bq4_ aa.out 0 rfl
            have ci := bq4_ aa.out 1 rfl
            have bM := bq4_ aa.out 2 rfl
            have ct := bq4_ aa.out 3 rfl
            have b4 := bq4_ aa.out 4 rfl
            have cq := qc4 aa.out 0
            have bO := qc4 aa.out 1
            have cl := qc4 aa.out 2
            have co := qc4 aa.out 3
            have cc := qc4 aa.out 4
            go_wp2
            go_ret
            exact ⟨by first | rfl | (simp [errW_none, errW_some] <;> rfl) | (simp [*, errW_none, errW_some] <;> rfl), by repeat (first | (with_reducible first | exact HB.out | apply qe4 | apply qb4 | apply qd4 | refine qf4 ?_ al.out) | exact HB.out)⟩
          ·rw [if_neg c43] at H
           have bB : (ar == ah) = false := beq_eq_false_iff_ne.mpr c43
           have bz : (ar != ah) = true := bne_iff_ne.mpr c43
           obtain rfl := Option.some.inj H
           have bX := bq4_ aa.out 0 rfl
           have b2 := bq4_ aa.out 1 rfl
           have b7 := bq4_ aa.out 2 rfl
           have cg := bq4_ aa.out 3 rfl
           have cr := bq4_ aa.out 4 rfl
           have bN := qc4 aa.out 0
           have cz := qc4 aa.out 1
           have b3 := qc4 aa.out 2
           have b6 := qc4 aa.out 3
           have ce := qc4 aa.out 4
           go_wp2
           go_ret
           exact ⟨by first | rfl | (simp [errW_none, errW_some] <;> rfl) | (simp [*, errW_none, errW_some] <;> rfl), by repeat (first | (with_reducible first | exact HB.out | apply qe4 | apply qb4 | apply qd4 | refine qf4 ?_ al.out) | exact HB.out)⟩
         ·rw [if_neg c42] at H
          have bt : (aq == ag) = false := beq_eq_false_iff_ne.mpr c42
          have bs : (aq != ag) = true := bne_iff_ne.mpr c42
          obtain rfl := Option.some.inj H
          have bH := bq4_ aa.out 0 rfl
          have bU := bq4_ aa.out 1 rfl
          have bV := bq4_ aa.out 2 rfl
          have bP := bq4_ aa.out 3 rfl
          have cu := bq4_ aa.out 4 rfl
          have cj := qc4 aa.out 0
          have cF := qc4 aa.out 1
          have b9 := qc4 aa.out 2
          have bJ := qc4 aa.out 3
          have ck := qc4 aa.out 4
          go_wp2
          go_ret
          exact ⟨by first | rfl | (simp [errW_none, errW_some] <;> rfl) | (simp [*, errW_none, errW_some] <;> rfl), by repeat (first | (with_reducible first | exact HB.out | apply qe4 | apply qb4 | apply qd4 | refine qf4 ?_ al.out) | exact HB.out)⟩
     ·replace c24 := Bool.eq_false_iff.mpr c24
      subst c24
      have H1 : (if t466 = (-1) then ((laws_pwOk.f kj4).bind fun t471 => (some t471)) else (some false)) = some r := by rw [if_neg (show ¬ (false = true) by decide)] at H; exact H
      clear H
      have H := H1
      clear H1
      by_cases c49 : t466 = (-1)
      ·rw [if_pos c49] at H
       have bE : (t466 == (-1)) = true := beq_iff_eq.mpr c49
       have bx : (t466 != (-1)) = false := bne_eq_false_iff_eq.mpr c49
       clear c49
       replace H := Option.bind_eq_some_iff.mp H
       obtain ⟨t471, bm, H⟩ := H
       (try dsimp only at H)
       have A50 := qa4 bm
       clear bm
       obtain rfl := Option.some.inj H
       have b5 := bq4_ aa.out 0 rfl
       have cE := bq4_ aa.out 1 rfl
       have cx := bq4_ aa.out 2 rfl
       have cB := bq4_ aa.out 3 rfl
       have cC := bq4_ aa.out 4 rfl
       have bR := qc4 aa.out 0
       have bK := qc4 aa.out 1
       have bS := qc4 aa.out 2
       have bI := qc4 aa.out 3
       have cA := qc4 aa.out 4
       go_wp2_with (first | ((with_reducible refine gate_callee (f := 9) rfl ?_); refine goesL_ (some 34) rfl rfl Tryd.func9 (by kernel_rfl) rfl #[.agg #[.slice Ao8 ae.length co8, .int .i64 ag, .int .i64 ah, .slice an af.length am, .int .i64 ai]] rfl (by (try simp only [List.map_toArray, List.map_cons, List.map_nil]); first | done | rfl | (simp only [List.length_drop, List.length_take]; rfl)) ?_; (with_reducible refine (spec_TblOk.calls kj4 _ _ ae ag ah _ _ af ai false _ ?side1 ?side2 ?side3 ?side4 A23.out).mono ?_); (case side1 => repeat (first | exact (Kd.R_reads' ab.out).2.2 | (with_reducible refine Kd.C_alloc ?_ _) | (with_reducible refine Kd.C_drewN ?_ _) | (with_reducible refine Kd.C_drew ?_))); (case side2 => exact (Kd.R_reads' ab.out).2.1); (case side3 => repeat (first | exact (Kd.S_reads' ac.out).2.2 | (with_reducible refine Kd.C_alloc ?_ _) | (with_reducible refine Kd.C_drewN ?_ _) | (with_reducible refine Kd.C_drew ?_))); (case side4 => exact (Kd.S_reads' ac.out).2.1); rintro e w52 ⟨rfl, hb⟩; refine ⟨_, rfl, ?_⟩; have n0_ := qa4 (Kd.R_below (by (with_reducible repeat (first | apply qg4 | apply qh4 | apply qk4)); exact ab.out) hb); have n1_ := qa4 (Kd.S_below (by (with_reducible repeat (first | apply qi4 | apply qj4 | apply ql4)); exact ac.out) hb); have n2_ := qa4 (blk_below (g := ad) (by (with_reducible repeat (first | apply blk_drewN | apply blk_drew | apply blk_alloc)); exact aa.out) hb); have n3_ := qa4 (below_step (by repeat (first | (with_reducible first | exact HB.out | apply qe4 | apply qb4 | apply qd4 | refine qf4 ?_ al.out) | exact HB.out)) hb); replace ab := n0_; replace ac := n1_; replace aa := n2_; replace HB := n3_; clear n0_ n1_ n2_ n3_; (try clear hb hk hi)) | (go_at_call 13; (with_reducible refine (laws_pwOk.calls kj4  t471 _ A50.out).mono ?_); rintro e w53 ⟨rfl, hb⟩; have n0_ := qa4 (Kd.R_below (by (with_reducible repeat (first | apply qg4 | apply qh4 | apply qk4)); exact ab.out) hb); have n1_ := qa4 (Kd.S_below (by (with_reducible repeat (first | apply qi4 | apply qj4 | apply ql4)); exact ac.out) hb); have n2_ := qa4 (blk_below (g := ad) (by (with_reducible repeat (first | apply blk_drewN | apply blk_drew | apply blk_alloc)); exact aa.out) hb); have n3_ := qa4 (below_step (by repeat (first | (with_reducible first | exact HB.out | apply qe4 | apply qb4 | apply qd4 | refine qf4 ?_ al.out) | exact HB.out)) hb); replace ab := n0_; replace ac := n1_; replace aa := n2_; replace HB := n3_; clear n0_ n1_ n2_ n3_; (try clear hb hk hi)))
       go_ret
       exact ⟨by first | rfl | (simp [errW_none, errW_some] <;> rfl) | (simp [*, errW_none, errW_some] <;> rfl), by repeat (first | (with_reducible first | exact HB.out | apply qe4 | apply qb4 | apply qd4 | refine qf4 ?_ al.out) | exact HB.out)⟩
      ·rw [if_neg c49] at H
       have bE : (t466 == (-1)) = false := beq_eq_false_iff_ne.mpr c49
       have bx : (t466 != (-1)) = true := bne_iff_ne.mpr c49
       obtain rfl := Option.some.inj H
       have b0 := bq4_ aa.out 0 rfl
       have b1 := bq4_ aa.out 1 rfl
       have bY := bq4_ aa.out 2 rfl
       have cd := bq4_ aa.out 3 rfl
       have bW := bq4_ aa.out 4 rfl
       have cw := qc4 aa.out 0
       have cm := qc4 aa.out 1
       have b8 := qc4 aa.out 2
       have cb := qc4 aa.out 3
       have cv := qc4 aa.out 4
       go_wp2_with (first | ((with_reducible refine gate_callee (f := 9) rfl ?_); refine goesL_ (some 34) rfl rfl Tryd.func9 (by kernel_rfl) rfl #[.agg #[.slice Ao8 ae.length co8, .int .i64 ag, .int .i64 ah, .slice an af.length am, .int .i64 ai]] rfl (by (try simp only [List.map_toArray, List.map_cons, List.map_nil]); first | done | rfl | (simp only [List.length_drop, List.length_take]; rfl)) ?_; (with_reducible refine (spec_TblOk.calls kj4 _ _ ae ag ah _ _ af ai false _ ?side1 ?side2 ?side3 ?side4 A23.out).mono ?_); (case side1 => repeat (first | exact (Kd.R_reads' ab.out).2.2 | (with_reducible refine Kd.C_alloc ?_ _) | (with_reducible refine Kd.C_drewN ?_ _) | (with_reducible refine Kd.C_drew ?_))); (case side2 => exact (Kd.R_reads' ab.out).2.1); (case side3 => repeat (first | exact (Kd.S_reads' ac.out).2.2 | (with_reducible refine Kd.C_alloc ?_ _) | (with_reducible refine Kd.C_drewN ?_ _) | (with_reducible refine Kd.C_drew ?_))); (case side4 => exact (Kd.S_reads' ac.out).2.1); rintro e w55 ⟨rfl, hb⟩; refine ⟨_, rfl, ?_⟩; have n0_ := qa4 (Kd.R_below (by (with_reducible repeat (first | apply qg4 | apply qh4 | apply qk4)); exact ab.out) hb); have n1_ := qa4 (Kd.S_below (by (with_reducible repeat (first | apply qi4 | apply qj4 | apply ql4)); exact ac.out) hb); have n2_ := qa4 (blk_below (g := ad) (by (with_reducible repeat (first | apply blk_drewN | apply blk_drew | apply blk_alloc)); exact aa.out) hb); have n3_ := qa4 (below_step (by repeat (first | (with_reducible first | exact HB.out | apply qe4 | apply qb4 | apply qd4 | refine qf4 ?_ al.out) | exact HB.out)) hb); replace ab := n0_; replace ac := n1_; replace aa := n2_; replace HB := n3_; clear n0_ n1_ n2_ n3_; (try clear hb hk hi)))
       go_ret
       exact ⟨by first | rfl | (simp [errW_none, errW_some] <;> rfl) | (simp [*, errW_none, errW_some] <;> rfl), by repeat (first | (with_reducible first | exact HB.out | apply qe4 | apply qb4 | apply qd4 | refine qf4 ?_ al.out) | exact HB.out)⟩
def laws_FnTblPart.Pure : Prop := ∀ (l0 : List Int), l0.length ≤ maxLen → l0.length * 1 ≤ 140737488351232 → (∀ x ∈ l0, (Lit.int .u8 x).wf = true) → ∃ k, laws_FnTblPart.f k l0 = some true
end Go.Proofs.YtnednnnegofhkaaDoor.Pr
