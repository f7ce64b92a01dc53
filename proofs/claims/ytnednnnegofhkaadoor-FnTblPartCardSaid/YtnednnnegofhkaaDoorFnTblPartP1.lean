/- A part of what the claim of 'FnTblPart' leans on. -/
import Derived.Test.YtnednnnegofhkaaDoorFnTblPartP0
namespace Go.Proofs.YtnednnnegofhkaaDoor.Pr
open Go.RowKit Go.Proofs.YtnednnnegofhkaaDoorW.PrintWords Go.Proofs.YtnednnnegofhkaaDoorW.PrintLast Go.Proofs.YtnednnnegofhkaaDoorW.PrintMore
attribute [local go_sem] max2_int min2_int max_two min_two max_three min_three max_four min_four
set_option linter.unusedVariables false
set_option linter.unusedSimpArgs false
mutual
def spec_TblOk.j0 : Nat → Bool → List (S29) → Int → Int → List (S32) → Int → Option (Bool)
  | 0, _, _, _, _, _, _ => none
  | k + 1, x43, x120000, x120001, x120002, x120003, x120004 => if x43 = true then (some false) else (spec_TblOk.l0 k 0 x120000 x120001 x120002 x120003 x120004)
def spec_TblOk.l0 : Nat → Int → List (S29) → Int → Int → List (S32) → Int → Option (Bool)
  | 0, _, _, _, _, _, _ => none
  | k + 1, x3, x120000, x120001, x120002, x120003, x120004 => if x3 < (x120000.length : Int) then (if 0 ≤ x3 then ((spec_l2Col.f ((rd_T29 x120000 x3).f0) ((rd_T29 x120000 x3).f1)).bind fun t125 => (if t125 = true then (spec_TblOk.l0 k (wrap64 (x3 + 1)) x120000 x120001 x120002 x120003 x120004) else (some false))) else (none)) else (spec_TblOk.l1 k 0 x120000 x120001 x120002 x120003 x120004)
def spec_TblOk.l1 : Nat → Int → List (S29) → Int → Int → List (S32) → Int → Option (Bool)
  | 0, _, _, _, _, _, _ => none
  | k + 1, x4, x120000, x120001, x120002, x120003, x120004 => if x4 < (x120003.length : Int) then (if 0 ≤ x4 then (if (((rd_T32 x120003 x4).f0).length : Int) > 5 then (some false) else (spec_TblOk.l2 k x4 0 x120000 x120001 x120002 x120003 x120004)) else (none)) else (some true)
def spec_TblOk.l2 : Nat → Int → Int → List (S29) → Int → Int → List (S32) → Int → Option (Bool)
  | 0, _, _, _, _, _, _, _ => none
  | k + 1, x4, x5, x120000, x120001, x120002, x120003, x120004 => if 0 ≤ x4 then (if x4 < (x120003.length : Int) then (if x5 < (((rd_T32 x120003 x4).f0).length : Int) then (if 0 ≤ x5 then ((spec_CellOk.f k ((rd_T37 ((rd_T32 x120003 x4).f0) x5).f0) ((rd_T37 ((rd_T32 x120003 x4).f0) x5).f1) ((rd_T37 ((rd_T32 x120003 x4).f0) x5).f2) ((rd_T37 ((rd_T32 x120003 x4).f0) x5).f3.f0) ((rd_T37 ((rd_T32 x120003 x4).f0) x5).f3.f1) ((rd_T37 ((rd_T32 x120003 x4).f0) x5).f4.f0) ((rd_T37 ((rd_T32 x120003 x4).f0) x5).f4.f1) ((rd_T37 ((rd_T32 x120003 x4).f0) x5).f5.f0) ((rd_T37 ((rd_T32 x120003 x4).f0) x5).f5.f1) ((rd_T37 ((rd_T32 x120003 x4).f0) x5).f6.f0) ((rd_T37 ((rd_T32 x120003 x4).f0) x5).f6.f1)).bind fun t130 => (if t130 = true then (spec_TblOk.l2 k x4 (wrap64 (x5 + 1)) x120000 x120001 x120002 x120003 x120004) else (some false))) else (none)) else (spec_TblOk.l1 k (wrap64 (x4 + 1)) x120000 x120001 x120002 x120003 x120004)) else (none)) else (none)
end
def spec_TblOk.f (k : Nat) (l0_0 : List (S29)) (a0_1 : Int) (a0_2 : Int) (l0_3 : List (S32)) (a0_4 : Int) : Option (Bool) := (spec_l1In.f (l0_3.length : Int) 1 8).bind fun t120 => (if t120 = true then (if (l0_0.length : Int) > 8 then (spec_TblOk.j0 k true l0_0 a0_1 a0_2 l0_3 a0_4) else ((spec_l1In.f a0_1 0 (l0_3.length : Int)).bind fun t121 => (if t121 = true then ((spec_l1In.f a0_2 0 (wrap64 ((l0_3.length : Int) - a0_1))).bind fun t122 => (if t122 = true then ((spec_l1In.f a0_4 0 3).bind fun t123 => (spec_TblOk.j0 k (!t123) l0_0 a0_1 a0_2 l0_3 a0_4)) else (spec_TblOk.j0 k true l0_0 a0_1 a0_2 l0_3 a0_4))) else (spec_TblOk.j0 k true l0_0 a0_1 a0_2 l0_3 a0_4)))) else (spec_TblOk.j0 k true l0_0 a0_1 a0_2 l0_3 a0_4))
theorem spec_TblOk.mono_l : ∀ k, (∀ y0 y1 y2 y3 y4 y5, LeO (spec_TblOk.j0 k y0 y1 y2 y3 y4 y5) (spec_TblOk.j0 (k + 1) y0 y1 y2 y3 y4 y5)) ∧ (∀ y0 y1 y2 y3 y4 y5, LeO (spec_TblOk.l0 k y0 y1 y2 y3 y4 y5) (spec_TblOk.l0 (k + 1) y0 y1 y2 y3 y4 y5)) ∧ (∀ y0 y1 y2 y3 y4 y5, LeO (spec_TblOk.l1 k y0 y1 y2 y3 y4 y5) (spec_TblOk.l1 (k + 1) y0 y1 y2 y3 y4 y5)) ∧ (∀ y0 y1 y2 y3 y4 y5 y6, LeO (spec_TblOk.l2 k y0 y1 y2 y3 y4 y5 y6) (spec_TblOk.l2 (k + 1) y0 y1 y2 y3 y4 y5 y6))
  | 0 => ⟨fun _ _ _ _ _ _ r h => by simp [spec_TblOk.j0] at h, fun _ _ _ _ _ _ r h => by simp [spec_TblOk.l0] at h, fun _ _ _ _ _ _ r h => by simp [spec_TblOk.l1] at h, fun _ _ _ _ _ _ _ r h => by simp [spec_TblOk.l2] at h⟩
  | k + 1 => by
    obtain ⟨ih0, ih1, ih2, ih3⟩ := spec_TblOk.mono_l k
    refine ⟨?_, ?_, ?_, ?_⟩
    · intro y0 y1 y2 y3 y4 y5
      unfold spec_TblOk.j0
      repeat' first
      | (with_reducible exact ih0 _ _ _ _ _ _)
      | (with_reducible exact ih1 _ _ _ _ _ _)
      | (with_reducible exact ih2 _ _ _ _ _ _)
      | (with_reducible exact ih3 _ _ _ _ _ _ _)
      | (with_reducible exact spec_CellOk.mono _ _ _ _ _ _ _ _ _ _ _ _)
      | (with_reducible exact LeO.refl _)
      | (with_reducible exact LeO.none _)
      | (with_reducible refine LeO.ite ?_ ?_)
      | (with_reducible refine LeO.bind ?_ (fun _ => ?_))
      | exact ih0 _ _ _ _ _ _
      | exact ih1 _ _ _ _ _ _
      | exact ih2 _ _ _ _ _ _
      | exact ih3 _ _ _ _ _ _ _
      | exact spec_CellOk.mono _ _ _ _ _ _ _ _ _ _ _ _
      | exact LeO.none _
      | refine LeO.ite ?_ ?_
      | refine LeO.bind ?_ (fun _ => ?_)
    · intro y0 y1 y2 y3 y4 y5
      unfold spec_TblOk.l0
      repeat' first
      | (with_reducible exact ih0 _ _ _ _ _ _)
      | (with_reducible exact ih1 _ _ _ _ _ _)
      | (with_reducible exact ih2 _ _ _ _ _ _)
      | (with_reducible exact ih3 _ _ _ _ _ _ _)
      | (with_reducible exact spec_CellOk.mono _ _ _ _ _ _ _ _ _ _ _ _)
      | (with_reducible exact LeO.refl _)
      | (with_reducible exact LeO.none _)
      | (with_reducible refine LeO.ite ?_ ?_)
      | (with_reducible refine LeO.bind ?_ (fun _ => ?_))
      | exact ih0 _ _ _ _ _ _
      | exact ih1 _ _ _ _ _ _
      | exact ih2 _ _ _ _ _ _
      | exact ih3 _ _ _ _ _ _ _
      | exact spec_CellOk.mono _ _ _ _ _ _ _ _ _ _ _ _
      | exact LeO.none _
      | refine LeO.ite ?_ ?_
      | refine LeO.bind ?_ (fun _ => ?_)
    · intro y0 y1 y2 y3 y4 y5
      unfold spec_TblOk.l1
      repeat' first
      | (with_reducible exact ih0 _ _ _ _ _ _)
      | (with_reducible exact ih1 _ _ _ _ _ _)
      | (with_reducible exact ih2 _ _ _ _ _ _)
      | (with_reducible exact ih3 _ _ _ _ _ _ _)
      | (with_reducible exact spec_CellOk.mono _ _ _ _ _ _ _ _ _ _ _ _)
      | (with_reducible exact LeO.refl _)
      | (with_reducible exact LeO.none _)
      | (with_reducible refine LeO.ite ?_ ?_)
      | (with_reducible refine LeO.bind ?_ (fun _ => ?_))
      | exact ih0 _ _ _ _ _ _
      | exact ih1 _ _ _ _ _ _
      | exact ih2 _ _ _ _ _ _
      | exact ih3 _ _ _ _ _ _ _
      | exact spec_CellOk.mono _ _ _ _ _ _ _ _ _ _ _ _
      | exact LeO.none _
      | refine LeO.ite ?_ ?_
      | refine LeO.bind ?_ (fun _ => ?_)
    · intro y0 y1 y2 y3 y4 y5 y6
      unfold spec_TblOk.l2
      repeat' first
      | (with_reducible exact ih0 _ _ _ _ _ _)
      | (with_reducible exact ih1 _ _ _ _ _ _)
      | (with_reducible exact ih2 _ _ _ _ _ _)
      | (with_reducible exact ih3 _ _ _ _ _ _ _)
      | (with_reducible exact spec_CellOk.mono _ _ _ _ _ _ _ _ _ _ _ _)
      | (with_reducible exact LeO.refl _)
      | (with_reducible exact LeO.none _)
      | (with_reducible refine LeO.ite ?_ ?_)
      | (with_reducible refine LeO.bind ?_ (fun _ => ?_))
      | exact ih0 _ _ _ _ _ _
      | exact ih1 _ _ _ _ _ _
      | exact ih2 _ _ _ _ _ _
      | exact ih3 _ _ _ _ _ _ _
      | exact spec_CellOk.mono _ _ _ _ _ _ _ _ _ _ _ _
      | exact LeO.none _
      | refine LeO.ite ?_ ?_
      | refine LeO.bind ?_ (fun _ => ?_)
theorem spec_TblOk.mono : ∀ a0 a1 a2 a3 a4 k, LeO (spec_TblOk.f k a0 a1 a2 a3 a4) (spec_TblOk.f (k + 1) a0 a1 a2 a3 a4) := by
  intro a0 a1 a2 a3 a4 k
  obtain ⟨ih0, ih1, ih2, ih3⟩ := spec_TblOk.mono_l k
  unfold spec_TblOk.f
  repeat' first
      | (with_reducible exact ih0 _ _ _ _ _ _)
      | (with_reducible exact ih1 _ _ _ _ _ _)
      | (with_reducible exact ih2 _ _ _ _ _ _)
      | (with_reducible exact ih3 _ _ _ _ _ _ _)
      | (with_reducible exact spec_CellOk.mono _ _ _ _ _ _ _ _ _ _ _ _)
      | (with_reducible exact LeO.refl _)
      | (with_reducible exact LeO.none _)
      | (with_reducible refine LeO.ite ?_ ?_)
      | (with_reducible refine LeO.bind ?_ (fun _ => ?_))
      | exact ih0 _ _ _ _ _ _
      | exact ih1 _ _ _ _ _ _
      | exact ih2 _ _ _ _ _ _
      | exact ih3 _ _ _ _ _ _ _
      | exact spec_CellOk.mono _ _ _ _ _ _ _ _ _ _ _ _
      | exact LeO.none _
      | refine LeO.ite ?_ ?_
      | refine LeO.bind ?_ (fun _ => ?_)
theorem bq9_ {w : World} {g : Nat} {t : TypeId} {cs : Array Value} {v : Value} (h : w.heap[g]? = some (.cells cs t (0, 0))) (i : Nat) (e : cs[i]? = some v) : w.cell? ⟨g, i, none⟩ = some v := (blk_cell h i).trans e
abbrev qa9 := @blk_frozen
abbrev qb9 := @Aside0.mk
abbrev qc9 := @pw_below_drewN
abbrev qd9 := @below_alloc
abbrev qe9 := @below_drew1
set_option maxHeartbeats 8000000 in
set_option maxRecDepth 100000 in
theorem spec_TblOk.calls (k : Nat) (A0_0 : Option Addr) (c0_0 : Nat) (l0_0 : List (S29)) (a0_1 : Int) (a0_2 : Int) (A0_3 : Option Addr) (c0_3 : Nat) (l0_3 : List (S32)) (a0_4 : Int) (r : Bool) (w : World) (hr0_0 : Kd.C k29 w A0_0 l0_0.length l0_0) (hc0_0 : l0_0.length ≤ c0_0) (hr0_3 : Kd.C k32 w A0_3 l0_3.length l0_3) (hc0_3 : l0_3.length ≤ c0_3) (h : spec_TblOk.f k l0_0 a0_1 a0_2 l0_3 a0_4 = some r) :
  Calls Tryd.prog 9 #[.agg #[.slice A0_0 l0_0.length c0_0, .int .i64 a0_1, .int .i64 a0_2, .slice A0_3 l0_3.length c0_3, .int .i64 a0_4]] w fun e w' => e = .returned (.bool r) ∧ Below w.heap.size w w' := by
 have hu26 := Tryd.underlying26
 have hu29 := Tryd.underlying29
 have hu37 := Tryd.underlying37
 have cB := qb9 hr0_0
 have HC0_0 := qb9 hc0_0
 clear hr0_0 hc0_0
 have aK := qb9 hr0_3
 have HC0_3 := qb9 hc0_3
 clear hr0_3 hc0_3
 have HB := qb9 (Below.refl w.heap.size w)
 have H := h
 unfold spec_TblOk.f at H
 clear h
 have HC2 := qb9 H
 clear H
 go_enter Tryd.func9, Tryd.ntmps9
 go_upto_region 1 with (first | ((with_reducible refine gate_dst (N := 1) rfl ?_); (try (refine gate_guard (by rfl) ?_; dsimp only)); refine box_event ?hg (N := 1) ?hd (cs := #[.slice A0_0 l0_0.length c0_0, .int .i64 a0_1, .int .i64 a0_2, .slice A0_3 l0_3.length c0_3, .int .i64 a0_4]) (t := 26) ?hr ?_; (case hd => rfl); (case hg => rfl); (case hr => go_simp <;> rfl); intro aC hg w3 hbox hb; have n0_ := qb9 (below_step (by repeat (first | (with_reducible first | exact HB.out | apply qd9 | apply qc9 | apply qe9) | exact HB.out)) hb); have n1_ := qb9 (hbox); have n2_ := qb9 ((by rw [hg]; exact (below_size (by repeat (first | (with_reducible first | exact HB.out | apply qd9 | apply qc9 | apply qe9) | exact HB.out))) : w.heap.size ≤ aC)); have n3_ := qb9 n2_.out; replace HB := n0_; have aa := n1_; have GW119 := n2_; have ad := n3_; clear n0_ n1_ n2_ n3_; clear hb hbox hg))
 (try simp only [Act.put, qa_, qb_, qc_])
 go_cut [43] (fun v43 wc => ∃ (kq : Nat) (bQ : Bool), v43 = .bool bQ ∧ Aside0 (spec_TblOk.j0 kq bQ l0_0 a0_1 a0_2 l0_3 a0_4 = some r) ∧ Aside0 (kq ≤ k) ∧ Aside0 (wc.heap[aC]? = some (.cells #[(.slice A0_0 l0_0.length c0_0), .int .i64 a0_1, .int .i64 a0_2, (.slice A0_3 l0_3.length c0_3), .int .i64 a0_4] 26 (0, 0))) ∧ Aside0 (Below w.heap.size w wc))
 case first =>
  have H := HC2.out
  clear HC2
  replace H := Option.bind_eq_some_iff.mp H
  obtain ⟨t120, A40, H⟩ := H
  (try dsimp only at H)
  have A4 := qb9 A40
  clear A40
  by_cases c5 : t120 = true
  ·subst c5
   have H1 : (if (l0_0.length : Int) > 8 then (spec_TblOk.j0 k true l0_0 a0_1 a0_2 l0_3 a0_4) else ((spec_l1In.f a0_1 0 (l0_3.length : Int)).bind fun t121 => (if t121 = true then ((spec_l1In.f a0_2 0 (wrap64 ((l0_3.length : Int) - a0_1))).bind fun t122 => (if t122 = true then ((spec_l1In.f a0_4 0 3).bind fun t123 => (spec_TblOk.j0 k (!t123) l0_0 a0_1 a0_2 l0_3 a0_4)) else (spec_TblOk.j0 k true l0_0 a0_1 a0_2 l0_3 a0_4))) else (spec_TblOk.j0 k true l0_0 a0_1 a0_2 l0_3 a0_4)))) = some r := by rw [if_pos rfl] at H; exact H
   clear H
   have H := H1
   clear H1
   by_cases c6 : (l0_0.length : Int) > 8
   ·rw [if_pos c6] at H
    have aN : decide (8 < (l0_0.length : Int)) = true := decide_eq_true c6
    have bR : decide (8 < l0_0.length) = true := decide_eq_true (by omega)
    clear c6
    (first | rw [aN] | (simp only [i64_w, i32_w]; rw [aN]) | skip)
    have H' := qb9 H
    clear H
    have bF := bq9_ aa.out 0 rfl
    have bN := bq9_ aa.out 1 rfl
    have bK := bq9_ aa.out 2 rfl
    have bG := bq9_ aa.out 3 rfl
    have bL := bq9_ aa.out 4 rfl
    have bI := qa9 aa.out 0
    have bH := qa9 aa.out 1
    have bE := qa9 aa.out 2
    have bJ := qa9 aa.out 3
    have bO := qa9 aa.out 4
    go_wp2_with (first | ((with_reducible refine gate_callee (f := 31) rfl ?_); refine goesL_ (some 9) rfl rfl Tryd.func31 (by kernel_rfl) rfl #[.int .i64 (l0_3.length : Int), .int .i64 1, .int .i64 8] rfl (by (try simp only [List.map_toArray, List.map_cons, List.map_nil]) <;> rfl) ?_; (with_reducible refine (spec_l1In.calls (l0_3.length : Int) 1 8 true _ A4.out).mono ?_); rintro e w' ⟨rfl, ⟨nd, rfl⟩⟩; refine ⟨_, rfl, ?_⟩))
    go_meet
    case rel => exact ⟨_, (true), (by first | rfl | (simp; done) | (simp [*]; done)), H', ⟨by first | omega | exact Nat.le_refl _⟩, ⟨by (with_reducible repeat (first | apply blk_drewN | apply blk_drew | apply blk_alloc)); exact aa.out⟩, ⟨by repeat (first | (with_reducible first | exact HB.out | apply qd9 | apply qc9 | apply qe9 | refine below_set ?_ ad.out) | exact HB.out)⟩⟩
   ·rw [if_neg c6] at H
    have aN : decide (8 < (l0_0.length : Int)) = false := decide_eq_false c6
    have bR : decide (8 < l0_0.length) = false := decide_eq_false (by omega)
    clear c6
    (first | rw [aN] | (simp only [i64_w, i32_w]; rw [aN]) | skip)
    replace H := Option.bind_eq_some_iff.mp H
    obtain ⟨t121, A80, H⟩ := H
    (try dsimp only at H)
    have A8 := qb9 A80
    clear A80
    by_cases c9 : t121 = true
    ·subst c9
     have H1 : ((spec_l1In.f a0_2 0 (wrap64 ((l0_3.length : Int) - a0_1))).bind fun t122 => (if t122 = true then ((spec_l1In.f a0_4 0 3).bind fun t123 => (spec_TblOk.j0 k (!t123) l0_0 a0_1 a0_2 l0_3 a0_4)) else (spec_TblOk.j0 k true l0_0 a0_1 a0_2 l0_3 a0_4))) = some r := by rw [if_pos rfl] at H; exact H
     clear H
     have H := H1
     clear H1
     replace H := Option.bind_eq_some_iff.mp H
     obtain ⟨t122, c8, H⟩ := H
     (try dsimp only at H)
     have A10 := qb9 c8
     clear c8
     by_cases c11 : t122 = true
     ·subst c11
      have H1 : ((spec_l1In.f a0_4 0 3).bind fun t123 => (spec_TblOk.j0 k (!t123) l0_0 a0_1 a0_2 l0_3 a0_4)) = some r := by rw [if_pos rfl] at H; exact H
      clear H
      have H := H1
      clear H1
      replace H := Option.bind_eq_some_iff.mp H
      obtain ⟨t123, db, H⟩ := H
      (try dsimp only at H)
      have A12 := qb9 db
      clear db
      have H' := qb9 H
      clear H
      have aY := bq9_ aa.out 0 rfl
      have aQ := bq9_ aa.out 1 rfl
      have aT := bq9_ aa.out 2 rfl
      have bp := bq9_ aa.out 3 rfl
      have bb := bq9_ aa.out 4 rfl
      have ba := qa9 aa.out 0
      have bs := qa9 aa.out 1
      have bj := qa9 aa.out 2
      have a5 := qa9 aa.out 3
      have a6 := qa9 aa.out 4
      go_wp2_with (first | ((with_reducible refine gate_callee (f := 31) rfl ?_); refine goesL_ (some 9) rfl rfl Tryd.func31 (by kernel_rfl) rfl #[.int .i64 (l0_3.length : Int), .int .i64 1, .int .i64 8] rfl (by (try simp only [List.map_toArray, List.map_cons, List.map_nil]) <;> rfl) ?_; (with_reducible refine (spec_l1In.calls (l0_3.length : Int) 1 8 true _ A4.out).mono ?_); rintro e w' ⟨rfl, ⟨nd, rfl⟩⟩; refine ⟨_, rfl, ?_⟩) | (go_at_call 31; (with_reducible refine (spec_l1In.calls a0_1 0 (l0_3.length : Int) true _ A8.out).mono ?_); rintro e w' ⟨rfl, ⟨nd, rfl⟩⟩) | (go_at_call 31; (with_reducible refine (spec_l1In.calls a0_2 0 (wrap64 ((l0_3.length : Int) - a0_1)) true _ A10.out).mono ?_); rintro e w' ⟨rfl, ⟨nd, rfl⟩⟩) | (go_at_call 31; (with_reducible refine (spec_l1In.calls a0_4 0 3 t123 _ A12.out).mono ?_); rintro e w' ⟨rfl, ⟨nd, rfl⟩⟩))
      go_meet
      case rel => exact ⟨_, (!t123), (by first | rfl | (simp; done) | (simp [*]; done)), H', ⟨by first | omega | exact Nat.le_refl _⟩, ⟨by (with_reducible repeat (first | apply blk_drewN | apply blk_drew | apply blk_alloc)); exact aa.out⟩, ⟨by repeat (first | (with_reducible first | exact HB.out | apply qd9 | apply qc9 | apply qe9 | refine below_set ?_ ad.out) | exact HB.out)⟩⟩
     ·replace c11 := Bool.eq_false_iff.mpr c11
      subst c11
      have H1 : (spec_TblOk.j0 k true l0_0 a0_1 a0_2 l0_3 a0_4) = some r := by rw [if_neg (show ¬ (false = true) by decide)] at H; exact H
      clear H
      have H := H1
      clear H1
      have H' := qb9 H
      clear H
      have bn := bq9_ aa.out 0 rfl
      have bw := bq9_ aa.out 1 rfl
      have br := bq9_ aa.out 2 rfl
      have bh := bq9_ aa.out 3 rfl
      have bv := bq9_ aa.out 4 rfl
      have aR := qa9 aa.out 0
      have bx := qa9 aa.out 1
      have a9 := qa9 aa.out 2
      have bk := qa9 aa.out 3
      have a7 := qa9 aa.out 4
      go_wp2_with (first | ((with_reducible refine gate_callee (f := 31) rfl ?_); refine goesL_ (some 9) rfl rfl Tryd.func31 (by kernel_rfl) rfl #[.int .i64 (l0_3.length : Int), .int .i64 1, .int .i64 8] rfl (by (try simp only [List.map_toArray, List.map_cons, List.map_nil]) <;> rfl) ?_; (with_reducible refine (spec_l1In.calls (l0_3.length : Int) 1 8 true _ A4.out).mono ?_); rintro e w' ⟨rfl, ⟨nd, rfl⟩⟩; refine ⟨_, rfl, ?_⟩) | (go_at_call 31; (with_reducible refine (spec_l1In.calls a0_1 0 (l0_3.length : Int) true _ A8.out).mono ?_); rintro e w' ⟨rfl, ⟨nd, rfl⟩⟩) | (go_at_call 31; (with_reducible refine (spec_l1In.calls a0_2 0 (wrap64 ((l0_3.length : Int) - a0_1)) false _ A10.out).mono ?_); rintro e w' ⟨rfl, ⟨nd, rfl⟩⟩))
      go_meet
      case rel => exact ⟨_, (true), (by first | rfl | (simp; done) | (simp [*]; done)), H', ⟨by first | omega | exact Nat.le_refl _⟩, ⟨by (with_reducible repeat (first | apply blk_drewN | apply blk_drew | apply blk_alloc)); exact aa.out⟩, ⟨by repeat (first | (with_reducible first | exact HB.out | apply qd9 | apply qc9 | apply qe9 | refine below_set ?_ ad.out) | exact HB.out)⟩⟩
    ·replace c9 := Bool.eq_false_iff.mpr c9
     subst c9
     have H1 : (spec_TblOk.j0 k true l0_0 a0_1 a0_2 l0_3 a0_4) = some r := by rw [if_neg (show ¬ (false = true) by decide)] at H; exact H
     clear H
     have H := H1
     clear H1
     have H' := qb9 H
     clear H
     have be := bq9_ aa.out 0 rfl
     have bq := bq9_ aa.out 1 rfl
     have aW := bq9_ aa.out 2 rfl
     have bt := bq9_ aa.out 3 rfl
     have aX := bq9_ aa.out 4 rfl
     have bl := qa9 aa.out 0
     have bz := qa9 aa.out 1
     have aZ := qa9 aa.out 2
     have bd := qa9 aa.out 3
     have bo := qa9 aa.out 4
     go_wp2_with (first | ((with_reducible refine gate_callee (f := 31) rfl ?_); refine goesL_ (some 9) rfl rfl Tryd.func31 (by kernel_rfl) rfl #[.int .i64 (l0_3.length : Int), .int .i64 1, .int .i64 8] rfl (by (try simp only [List.map_toArray, List.map_cons, List.map_nil]) <;> rfl) ?_; (with_reducible refine (spec_l1In.calls (l0_3.length : Int) 1 8 true _ A4.out).mono ?_); rintro e w' ⟨rfl, ⟨nd, rfl⟩⟩; refine ⟨_, rfl, ?_⟩) | (go_at_call 31; (with_reducible refine (spec_l1In.calls a0_1 0 (l0_3.length : Int) false _ A8.out).mono ?_); rintro e w' ⟨rfl, ⟨nd, rfl⟩⟩))
     go_meet
     case rel => exact ⟨_, (true), (by first | rfl | (simp; done) | (simp [*]; done)), H', ⟨by first | omega | exact Nat.le_refl _⟩, ⟨by (with_reducible repeat (first | apply blk_drewN | apply blk_drew | apply blk_alloc)); exact aa.out⟩, ⟨by repeat (first | (with_reducible first | exact HB.out | apply qd9 | apply qc9 | apply qe9 | refine below_set ?_ ad.out) | exact HB.out)⟩⟩
  ·replace c5 := Bool.eq_false_iff.mpr c5
   subst c5
   have H1 : (spec_TblOk.j0 k true l0_0 a0_1 a0_2 l0_3 a0_4) = some r := by rw [if_neg (show ¬ (false = true) by decide)] at H; exact H
   clear H
   have H := H1
   clear H1
   have H' := qb9 H
   clear H
   have bu := bq9_ aa.out 0 rfl
   have aV := bq9_ aa.out 1 rfl
   have bf := bq9_ aa.out 2 rfl
   have bm := bq9_ aa.out 3 rfl
   have aU := bq9_ aa.out 4 rfl
   have a8 := qa9 aa.out 0
   have bg := qa9 aa.out 1
   have aS := qa9 aa.out 2
   have bc := qa9 aa.out 3
   have bi := qa9 aa.out 4
   go_wp2_with (first | ((with_reducible refine gate_callee (f := 31) rfl ?_); refine goesL_ (some 9) rfl rfl Tryd.func31 (by kernel_rfl) rfl #[.int .i64 (l0_3.length : Int), .int .i64 1, .int .i64 8] rfl (by (try simp only [List.map_toArray, List.map_cons, List.map_nil]) <;> rfl) ?_; (with_reducible refine (spec_l1In.calls (l0_3.length : Int) 1 8 false _ A4.out).mono ?_); rintro e w' ⟨rfl, ⟨nd, rfl⟩⟩; refine ⟨_, rfl, ?_⟩))
   go_meet
   case rel => exact ⟨_, (true), (by first | rfl | (simp; done) | (simp [*]; done)), H', ⟨by first | omega | exact Nat.le_refl _⟩, ⟨by (with_reducible repeat (first | apply blk_drewN | apply blk_drew | apply blk_alloc)); exact aa.out⟩, ⟨by repeat (first | (with_reducible first | exact HB.out | apply qd9 | apply qc9 | apply qe9 | refine below_set ?_ ad.out) | exact HB.out)⟩⟩
 case rest =>
  clear HC2
  try clear c1
  try clear p2
  try clear c3
  try clear c5
  try clear c6
  try clear aN
  try clear bR
  try clear p6
  try clear c9
  try clear c11
  try clear aY
  try clear aQ
  try clear aT
  try clear bp
  try clear bb
  try clear bn
  try clear bw
  try clear br
  try clear bh
  try clear bv
  try clear be
  try clear bq
  try clear aW
  try clear bt
  try clear aX
  try clear bu
  try clear aV
  try clear bf
  try clear bm
  try clear aU
  try clear bF
  try clear bN
  try clear bK
  try clear bG
  try clear bL
  try clear ba
  try clear bs
  try clear bj
  try clear a5
  try clear a6
  try clear aR
  try clear bx
  try clear a9
  try clear bk
  try clear a7
  try clear bl
  try clear bz
  try clear aZ
  try clear bd
  try clear bo
  try clear a8
  try clear bg
  try clear aS
  try clear bc
  try clear bi
  try clear bI
  try clear bH
  try clear bE
  try clear bJ
  try clear bO
  obtain ⟨kq, bQ, rfl, HA, HJ1, aa, HB⟩ := hcut
  cases kq with
  | zero => exact absurd HA.out (by simp [spec_TblOk.j0])
  | succ kj1 =>
   have H := HA.out
   clear HA
   simp only [spec_TblOk.j0] at H
   by_cases c17 : bQ = true
   ·subst c17
    have H1 : (some false) = some r := by rw [if_pos rfl] at H; exact H
    clear H
    have H := H1
    clear H1
    obtain rfl := Option.some.inj H
    go_wp2
    go_ret
    exact ⟨by first | rfl | (simp [errW_none, errW_some] <;> rfl) | (simp [*, errW_none, errW_some] <;> rfl), by repeat (first | (with_reducible first | exact HB.out | apply qd9 | apply qc9 | apply qe9 | refine below_set ?_ ad.out) | exact HB.out)⟩
   ·replace c17 := Bool.eq_false_iff.mpr c17
    subst c17
    have H1 : (spec_TblOk.l0 kj1 0 l0_0 a0_1 a0_2 l0_3 a0_4) = some r := by rw [if_neg (show ¬ (false = true) by decide)] at H; exact H
    clear H
    have H := H1
    clear H1
    have H' := qb9 H
    clear H
    go_wp2
    go_loopg [3] kj1 (fun kq v3 w' => ∃ (ae : Int), v3 = .int .i64 ae ∧ Aside0 (spec_TblOk.l0 kq ae l0_0 a0_1 a0_2 l0_3 a0_4 = some r) ∧ Aside0 (kq ≤ kj1) ∧ Aside0 (w'.heap[aC]? = some (.cells #[(.slice A0_0 l0_0.length c0_0), .int .i64 a0_1, .int .i64 a0_2, (.slice A0_3 l0_3.length c0_3), .int .i64 a0_4] 26 (0, 0))) ∧ Aside0 (Below w.heap.size w w'))
    case atStart => exact ⟨(0), (by first | rfl | (simp; done) | (simp [*]; done)), H', ⟨Nat.le_refl _⟩, ⟨by (with_reducible repeat (first | apply blk_drewN | apply blk_drew | apply blk_alloc)); exact aa.out⟩, ⟨by repeat (first | (with_reducible first | exact HB.out | apply qd9 | apply qc9 | apply qe9 | refine below_set ?_ ad.out) | exact HB.out)⟩⟩
    case round =>
     clear H'
     try clear c1
     try clear p2
     try clear c3
     try clear c5
     try clear c6
     try clear aN
     try clear bR
     try clear p6
     try clear c9
     try clear c11
     try clear c17
     try clear aY
     try clear aQ
     try clear aT
     try clear bp
     try clear bb
     try clear bn
     try clear bw
     try clear br
     try clear bh
     try clear bv
     try clear be
     try clear bq
     try clear aW
     try clear bt
     try clear aX
     try clear bu
     try clear aV
     try clear bf
     try clear bm
     try clear aU
     try clear bF
     try clear bN
     try clear bK
     try clear bG
     try clear bL
     try clear ba
     try clear bs
     try clear bj
     try clear a5
     try clear a6
     try clear aR
     try clear bx
     try clear a9
     try clear bk
     try clear a7
     try clear bl
     try clear bz
     try clear aZ
     try clear bd
     try clear bo
     try clear a8
     try clear bg
     try clear aS
     try clear bc
     try clear bi
     try clear bI
     try clear bH
     try clear bE
     try clear bJ
     try clear bO
     try clear p2
     try clear p6
     obtain ⟨ae, rfl, HA, HK2, aa, HB⟩ := hrel
     cases gk with
     | zero => exact absurd HA.out (by simp [spec_TblOk.l0])
     | succ k2 =>
      have H := HA.out
      clear HA
      simp only [spec_TblOk.l0] at H
      by_cases c18 : ae < (l0_0.length : Int)
      ·rw [if_pos c18] at H
       have cp : decide (ae < (l0_0.length : Int)) = true := decide_eq_true c18
       clear c18
       by_cases c19 : 0 ≤ ae
       ·rw [if_pos c19] at H
        have cC : decide (0 ≤ ae) = true := decide_eq_true c19
        clear c19
        replace H := Option.bind_eq_some_iff.mp H
        obtain ⟨t125, da, H⟩ := H
        (try dsimp only at H)
        have A20 := qb9 da
        clear da
        by_cases c21 : t125 = true
        ·subst c21
         have H1 : (spec_TblOk.l0 k2 (wrap64 (ae + 1)) l0_0 a0_1 a0_2 l0_3 a0_4) = some r := by rw [if_pos rfl] at H; exact H
         clear H
         have H := H1
         clear H1
         have H' := qb9 H
         clear H
         have cj := bq9_ aa.out 0 rfl
         have b9 := bq9_ aa.out 1 rfl
         have ch := bq9_ aa.out 2 rfl
         have b2 := bq9_ aa.out 3 rfl
         have cc := bq9_ aa.out 4 rfl
         have b7 := qa9 aa.out 0
         have bZ := qa9 aa.out 1
         have bY := qa9 aa.out 2
         have b6 := qa9 aa.out 3
         have cm := qa9 aa.out 4
         have aL : 0 ≤ (ae : Int) := of_decide_eq_true (by first | (with_reducible assumption) | assumption)
         have aM : ae < (l0_0.length : Int) := of_decide_eq_true (by first | (with_reducible assumption) | assumption)
         obtain ⟨dh, cx, aj, ah⟩ := at_T29 cB.out ae aL aM
         cases cx
         replace aj := (HB.out.cell (World.block_lt_of_cell? w _ aj)).trans aj
         replace ah := (HB.out.cell (World.block_lt_of_cell? w _ ah)).trans ah
         replace aL := eq_true aL
         replace aM := eq_true aM
         go_wp2_with (first | ((with_reducible refine gate_callee (f := 32) rfl ?_); refine goesL_ (some 56) rfl rfl Tryd.func32 (by kernel_rfl) rfl #[.agg #[.int .i64 ((rd_T29 l0_0 ae).f0), .int .i64 ((rd_T29 l0_0 ae).f1)]] rfl (by (try simp only [List.map_toArray, List.map_cons, List.map_nil]); first | done | rfl | (simp only [List.length_drop, List.length_take]; rfl)) ?_; (with_reducible refine (spec_l2Col.calls ((rd_T29 l0_0 ae).f0) ((rd_T29 l0_0 ae).f1) true _ A20.out).mono ?_); rintro e w23 ⟨rfl, hb⟩; refine ⟨_, rfl, ?_⟩; have n0_ := qb9 (blk_below (g := aC) (by (with_reducible repeat (first | apply blk_drewN | apply blk_drew | apply blk_alloc)); exact aa.out) hb); have n1_ := qb9 (below_step (by repeat (first | (with_reducible first | exact HB.out | apply qd9 | apply qc9 | apply qe9 | refine below_set ?_ ad.out) | exact HB.out)) hb); replace aa := n0_; replace HB := n1_; clear n0_ n1_; (try clear hb hk hi)))
         go_roundg k2
         case measure => have := HJ1.out; have := HK2.out; omega
         case rel => exact ⟨(wrap64 (ae + 1)), (by first | rfl | (simp; done) | (simp [*]; done)), H', ⟨by have := HJ1.out; have := HK2.out; omega⟩, ⟨by (with_reducible repeat (first | apply blk_drewN | apply blk_drew | apply blk_alloc)); exact aa.out⟩, ⟨by repeat (first | (with_reducible first | exact HB.out | apply qd9 | apply qc9 | apply qe9 | refine below_set ?_ ad.out) | exact HB.out)⟩⟩
        ·replace c21 := Bool.eq_false_iff.mpr c21
         subst c21
         have H1 : (some false) = some r := by rw [if_neg (show ¬ (false = true) by decide)] at H; exact H
         clear H
         have H := H1
         clear H1
         obtain rfl := Option.some.inj H
         have co := bq9_ aa.out 0 rfl
         have cn := bq9_ aa.out 1 rfl
         have ca := bq9_ aa.out 2 rfl
         have cg := bq9_ aa.out 3 rfl
         have bX := bq9_ aa.out 4 rfl
         have bU := qa9 aa.out 0
         have b3 := qa9 aa.out 1
         have cf := qa9 aa.out 2
         have ck := qa9 aa.out 3
         have b4 := qa9 aa.out 4
         have aL : 0 ≤ (ae : Int) := of_decide_eq_true (by first | (with_reducible assumption) | assumption)
         have aM : ae < (l0_0.length : Int) := of_decide_eq_true (by first | (with_reducible assumption) | assumption)
         obtain ⟨dh, cx, aj, ah⟩ := at_T29 cB.out ae aL aM
         cases cx
         replace aj := (HB.out.cell (World.block_lt_of_cell? w _ aj)).trans aj
         replace ah := (HB.out.cell (World.block_lt_of_cell? w _ ah)).trans ah
         replace aL := eq_true aL
         replace aM := eq_true aM
         go_wp2_with (first | ((with_reducible refine gate_callee (f := 32) rfl ?_); refine goesL_ (some 56) rfl rfl Tryd.func32 (by kernel_rfl) rfl #[.agg #[.int .i64 ((rd_T29 l0_0 ae).f0), .int .i64 ((rd_T29 l0_0 ae).f1)]] rfl (by (try simp only [List.map_toArray, List.map_cons, List.map_nil]); first | done | rfl | (simp only [List.length_drop, List.length_take]; rfl)) ?_; (with_reducible refine (spec_l2Col.calls ((rd_T29 l0_0 ae).f0) ((rd_T29 l0_0 ae).f1) false _ A20.out).mono ?_); rintro e w25 ⟨rfl, hb⟩; refine ⟨_, rfl, ?_⟩; have n0_ := qb9 (blk_below (g := aC) (by (with_reducible repeat (first | apply blk_drewN | apply blk_drew | apply blk_alloc)); exact aa.out) hb); have n1_ := qb9 (below_step (by repeat (first | (with_reducible first | exact HB.out | apply qd9 | apply qc9 | apply qe9 | refine below_set ?_ ad.out) | exact HB.out)) hb); replace aa := n0_; replace HB := n1_; clear n0_ n1_; (try clear hb hk hi)))
         go_ret
         exact ⟨by first | rfl | (simp [errW_none, errW_some] <;> rfl) | (simp [*, errW_none, errW_some] <;> rfl), by repeat (first | (with_reducible first | exact HB.out | apply qd9 | apply qc9 | apply qe9 | refine below_set ?_ ad.out) | exact HB.out)⟩
       ·rw [if_neg c19] at H
        exact absurd H (by simp)
      ·rw [if_neg c18] at H
       have cp : decide (ae < (l0_0.length : Int)) = false := decide_eq_false c18
       clear c18
       have H' := qb9 H
       clear H
       have cb := bq9_ aa.out 0 rfl
       have bT := bq9_ aa.out 1 rfl
       have cd := bq9_ aa.out 2 rfl
       have b8 := bq9_ aa.out 3 rfl
       have b1 := bq9_ aa.out 4 rfl
       have b5 := qa9 aa.out 0
       have b0 := qa9 aa.out 1
       have bW := qa9 aa.out 2
       have ci := qa9 aa.out 3
       have ce := qa9 aa.out 4
       go_wp2
       go_loopg [4] k2 (fun kq v4 w' => ∃ (ab : Int), v4 = .int .i64 ab ∧ Aside0 (spec_TblOk.l1 kq ab l0_0 a0_1 a0_2 l0_3 a0_4 = some r) ∧ Aside0 (kq ≤ k2) ∧ Aside0 (w'.heap[aC]? = some (.cells #[(.slice A0_0 l0_0.length c0_0), .int .i64 a0_1, .int .i64 a0_2, (.slice A0_3 l0_3.length c0_3), .int .i64 a0_4] 26 (0, 0))) ∧ Aside0 (Below w.heap.size w w'))
       case atStart => exact ⟨(0), (by first | rfl | (simp; done) | (simp [*]; done)), H', ⟨Nat.le_refl _⟩, ⟨by (with_reducible repeat (first | apply blk_drewN | apply blk_drew | apply blk_alloc)); exact aa.out⟩, ⟨by repeat (first | (with_reducible first | exact HB.out | apply qd9 | apply qc9 | apply qe9 | refine below_set ?_ ad.out) | exact HB.out)⟩⟩
       case round =>
        clear H'
        try clear c1
        try clear p1
        try clear q1
        try clear hx1
        try clear c2
        try clear p2
        try clear c3
        try clear c5
        try clear c6
        try clear aN
        try clear bR
        try clear p6
        try clear c9
        try clear c11
        try clear p12
        try clear q12
        try clear hx12
        try clear c17
        try clear c18
        try clear cp
        try clear c19
        try clear cC
        try clear c21
        try clear aY
        try clear aQ
        try clear aT
        try clear bp
        try clear bb
        try clear bn
        try clear bw
        try clear br
        try clear bh
        try clear bv
        try clear be
        try clear bq
        try clear aW
        try clear bt
        try clear aX
        try clear bu
        try clear aV
        try clear bf
        try clear bm
        try clear aU
        try clear cj
        try clear b9
        try clear ch
        try clear b2
        try clear cc
        try clear co
        try clear cn
        try clear ca
        try clear cg
        try clear bX
        try clear cb
        try clear bT
        try clear cd
        try clear b8
        try clear b1
        try clear bF
        try clear bN
        try clear bK
        try clear bG
        try clear bL
        try clear ba
        try clear bs
        try clear bj
        try clear a5
        try clear a6
        try clear aR
        try clear bx
        try clear a9
        try clear bk
        try clear a7
        try clear bl
        try clear bz
        try clear aZ
        try clear bd
        try clear bo
        try clear a8
        try clear bg
        try clear aS
        try clear bc
        try clear bi
        try clear b7
        try clear bZ
        try clear bY
        try clear b6
        try clear cm
        try clear bU
        try clear b3
        try clear cf
        try clear ck
        try clear b4
        try clear b5
        try clear b0
        try clear bW
        try clear ci
        try clear ce
        try clear bI
        try clear bH
        try clear bE
        try clear bJ
        try clear bO
        try clear aj
        try clear ah
        try clear aL
        try clear p2
        try clear p6
        try clear aM
        obtain ⟨ab, rfl, HA, HK3, aa, HB⟩ := hrel
        cases gk with
        | zero => exact absurd HA.out (by simp [spec_TblOk.l1])
        | succ k3 =>
         have H := HA.out
         clear HA
         simp only [spec_TblOk.l1] at H
         by_cases c27 : ab < (l0_3.length : Int)
         ·rw [if_pos c27] at H
          have cz : decide (ab < (l0_3.length : Int)) = true := decide_eq_true c27
          clear c27
          by_cases c28 : 0 ≤ ab
          ·rw [if_pos c28] at H
           have df : decide (0 ≤ ab) = true := decide_eq_true c28
           clear c28
           by_cases c29 : (((rd_T32 l0_3 ab).f0).length : Int) > 5
           ·rw [if_pos c29] at H
            have cy : decide (5 < (((rd_T32 l0_3 ab).f0).length : Int)) = true := decide_eq_true c29
            have cA : decide (5 < ((rd_T32 l0_3 ab).f0).length) = true := decide_eq_true (by omega)
            clear c29
            obtain rfl := Option.some.inj H
            have cO := bq9_ aa.out 0 rfl
            have cZ := bq9_ aa.out 1 rfl
            have cL := bq9_ aa.out 2 rfl
            have cU := bq9_ aa.out 3 rfl
            have cN := bq9_ aa.out 4 rfl
            have cW := qa9 aa.out 0
            have cH := qa9 aa.out 1
            have cG := qa9 aa.out 2
            have cF := qa9 aa.out 3
            have cT := qa9 aa.out 4
            have aP : 0 ≤ (ab : Int) := of_decide_eq_true (by first | (with_reducible assumption) | assumption)
            have aO : ab < (l0_3.length : Int) := of_decide_eq_true (by first | (with_reducible assumption) | assumption)
            obtain ⟨aJ, c4, dd, cw, al, ao, aG, aF⟩ := at_T32 aK.out ab aP aO
            cases cw
            replace al := (HB.out.cell (World.block_lt_of_cell? w _ al)).trans al
            replace ao := (HB.out.cell (World.block_lt_of_cell? w _ ao)).trans ao
            have cI := qb9 aF
            have cK := qb9 aG
            clear aF aG
            replace aP := eq_true aP
            replace aO := eq_true aO
            go_wp2
            go_ret
            exact ⟨by first | rfl | (simp [errW_none, errW_some] <;> rfl) | (simp [*, errW_none, errW_some] <;> rfl), by repeat (first | (with_reducible first | exact HB.out | apply qd9 | apply qc9 | apply qe9 | refine below_set ?_ ad.out) | exact HB.out)⟩
           ·rw [if_neg c29] at H
            have cy : decide (5 < (((rd_T32 l0_3 ab).f0).length : Int)) = false := decide_eq_false c29
            have cA : decide (5 < ((rd_T32 l0_3 ab).f0).length) = false := decide_eq_false (by omega)
            clear c29
            have H' := qb9 H
            clear H
            have cX := bq9_ aa.out 0 rfl
            have cV := bq9_ aa.out 1 rfl
            have cR := bq9_ aa.out 2 rfl
            have cY := bq9_ aa.out 3 rfl
            have cQ := bq9_ aa.out 4 rfl
            have cS := qa9 aa.out 0
            have cJ := qa9 aa.out 1
            have cM := qa9 aa.out 2
            have cD := qa9 aa.out 3
            have cE := qa9 aa.out 4
            have aP : 0 ≤ (ab : Int) := of_decide_eq_true (by first | (with_reducible assumption) | assumption)
            have aO : ab < (l0_3.length : Int) := of_decide_eq_true (by first | (with_reducible assumption) | assumption)
            obtain ⟨aJ, c4, dd, cw, al, ao, aG, aF⟩ := at_T32 aK.out ab aP aO
            cases cw
            replace al := (HB.out.cell (World.block_lt_of_cell? w _ al)).trans al
            replace ao := (HB.out.cell (World.block_lt_of_cell? w _ ao)).trans ao
            have cI := qb9 aF
            have cK := qb9 aG
            clear aF aG
            replace aP := eq_true aP
            replace aO := eq_true aO
            go_wp2
            go_loopg [5] k3 (fun kq v5 w' => ∃ (ac : Int), v5 = .int .i64 ac ∧ Aside0 (spec_TblOk.l2 kq ab ac l0_0 a0_1 a0_2 l0_3 a0_4 = some r) ∧ Aside0 (kq ≤ k3) ∧ Aside0 (w'.heap[aC]? = some (.cells #[(.slice A0_0 l0_0.length c0_0), .int .i64 a0_1, .int .i64 a0_2, (.slice (some aJ) l0_3.length c0_3), .int .i64 a0_4] 26 (0, 0))) ∧ Aside0 (Below w.heap.size w w'))
            case atStart => exact ⟨(0), (by first | rfl | (simp; done) | (simp [*]; done)), H', ⟨Nat.le_refl _⟩, ⟨by (with_reducible repeat (first | apply blk_drewN | apply blk_drew | apply blk_alloc)); exact aa.out⟩, ⟨by repeat (first | (with_reducible first | exact HB.out | apply qd9 | apply qc9 | apply qe9 | refine below_set ?_ ad.out) | exact HB.out)⟩⟩
            case round =>
             clear H'
             try clear c1
             try clear p1
             try clear q1
             try clear hx1
             try clear c2
             try clear p2
             try clear c3
             try clear c5
             try clear c6
             try clear aN
             try clear bR
             try clear p6
             try clear c9
             try clear c11
             try clear c12
             try clear p12
             try clear q12
             try clear hx12
             try clear c17
             try clear c18
             try clear cp
             try clear c19
             try clear cC
             try clear c21
             try clear c27
             try clear cz
             try clear c28
             try clear df
             try clear c29
             try clear cy
             try clear cA
             try clear c31
             try clear aY
             try clear aQ
             try clear aT
             try clear bp
             try clear bb
             try clear bn
             try clear bw
             try clear br
             try clear bh
             try clear bv
             try clear be
             try clear bq
             try clear aW
             try clear bt
             try clear aX
             try clear bu
             try clear aV
             try clear bf
             try clear bm
             try clear aU
             try clear cj
             try clear b9
             try clear ch
             try clear b2
             try clear cc
             try clear co
             try clear cn
             try clear ca
             try clear cg
             try clear bX
             try clear cb
             try clear bT
             try clear cd
             try clear b8
             try clear b1
             try clear cO
             try clear cZ
             try clear cL
             try clear cU
             try clear cN
             try clear cX
             try clear cV
             try clear cR
             try clear cY
             try clear cQ
             try clear bF
             try clear bN
             try clear bK
             try clear bG
             try clear bL
             try clear ba
             try clear bs
             try clear bj
             try clear a5
             try clear a6
             try clear aR
             try clear bx
             try clear a9
             try clear bk
             try clear a7
             try clear bl
             try clear bz
             try clear aZ
             try clear bd
             try clear bo
             try clear a8
             try clear bg
             try clear aS
             try clear bc
             try clear bi
             try clear b7
             try clear bZ
             try clear bY
             try clear b6
             try clear cm
             try clear bU
             try clear b3
             try clear cf
             try clear ck
             try clear b4
             try clear b5
             try clear b0
             try clear bW
             try clear ci
             try clear ce
             try clear cW
             try clear cH
             try clear cG
             try clear cF
             try clear cT
             try clear cS
             try clear cJ
             try clear cM
             try clear cD
             try clear cE
             try clear bI
             try clear bH
             try clear bE
             try clear bJ
             try clear bO
             try clear aj
             try clear ah
             try clear al
             try clear ao
             try clear p1
             try clear p12
             try clear aL
             try clear aP
             try clear p2
             try clear p6
             try clear q1
             try clear q12
             try clear aM
             try clear aO
             obtain ⟨ac, rfl, HA, HK4, aa, HB⟩ := hrel
             cases gk with
             | zero => exact absurd HA.out (by simp [spec_TblOk.l2])
             | succ k4 =>
              have H := HA.out
              clear HA
              simp only [spec_TblOk.l2] at H
              by_cases c32 : 0 ≤ ab
              ·rw [if_pos c32] at H
               have c32b0 : decide (0 ≤ ab) = true := decide_eq_true c32
               clear c32
               by_cases c33 : ab < (l0_3.length : Int)
               ·rw [if_pos c33] at H
                have c33b0 : decide (ab < (l0_3.length : Int)) = true := decide_eq_true c33
                clear c33
                by_cases c34 : ac < (((rd_T32 l0_3 ab).f0).length : Int)
                ·rw [if_pos c34] at H
                 have dg : decide (ac < (((rd_T32 l0_3 ab).f0).length : Int)) = true := decide_eq_true c34
                 clear c34
                 by_cases c35 : 0 ≤ ac
                 ·rw [if_pos c35] at H
                  have c35b0 : decide (0 ≤ ac) = true := decide_eq_true c35
                  clear c35
                  replace H := Option.bind_eq_some_iff.mp H
                  obtain ⟨t130, c7, H⟩ := H
                  (try dsimp only at H)
                  have A36 := qb9 c7
                  clear c7
                  by_cases c37 : t130 = true
                  ·subst c37
                   have H1 : (spec_TblOk.l2 k4 ab (wrap64 (ac + 1)) l0_0 a0_1 a0_2 l0_3 a0_4) = some r := by rw [if_pos rfl] at H; exact H
                   clear H
                   have H := H1
                   clear H1
                   have H' := qb9 H
                   clear H
                   have dF := bq9_ aa.out 0 rfl
                   have dN := bq9_ aa.out 1 rfl
                   have dp := bq9_ aa.out 2 rfl
                   have dJ := bq9_ aa.out 3 rfl
                   have ds := bq9_ aa.out 4 rfl
                   have dL := qa9 aa.out 0
                   have dM := qa9 aa.out 1
                   have dA := qa9 aa.out 2
                   have dG := qa9 aa.out 3
                   have dQ := qa9 aa.out 4
                   have aE : 0 ≤ (ab : Int) := of_decide_eq_true (by first | (with_reducible assumption) | assumption)
                   have aD : ab < (l0_3.length : Int) := of_decide_eq_true (by first | (with_reducible assumption) | assumption)
                   obtain ⟨bM, ct, cr, bS, af, ag, an, am⟩ := at_T32 aK.out ab aE aD
                   obtain rfl : aJ = bM := (by injection bS)
                   replace af := (HB.out.cell (World.block_lt_of_cell? w _ af)).trans af
                   replace ag := (HB.out.cell (World.block_lt_of_cell? w _ ag)).trans ag
                   have cl := qb9 am
                   have bV := qb9 an
                   clear am an
                   replace aE := eq_true aE
                   replace aD := eq_true aD
                   have bD : 0 ≤ (ab : Int) := of_decide_eq_true (by first | (with_reducible assumption) | assumption)
                   have bA : ab < (l0_3.length : Int) := of_decide_eq_true (by first | (with_reducible assumption) | assumption)
                   obtain ⟨cq, c0, dc, cv, ai, az, aH, aI⟩ := at_T32 aK.out ab bD bA
                   obtain rfl : aJ = cq := (by injection cv)
                   replace ai := (HB.out.cell (World.block_lt_of_cell? w _ ai)).trans ai
                   replace az := (HB.out.cell (World.block_lt_of_cell? w _ az)).trans az
                   have bP := qb9 aI
                   have cP := qb9 aH
                   clear aI aH
                   replace bD := eq_true bD
                   replace bA := eq_true bA
                   have ea_ := Option.some.inj (af.symm.trans ai)
                   injection ea_ with ea_ en_ ec_
                   subst ea_
                   subst ec_
                   clear en_
                   have bC : 0 ≤ (ac : Int) := of_decide_eq_true (by first | (with_reducible assumption) | assumption)
                   have bB : ac < (((rd_T32 l0_3 ab).f0).length : Int) := of_decide_eq_true (by first | (with_reducible assumption) | assumption)
                   obtain ⟨de, cu, aw, aB, au, ax, av, ap, ay, ar, aq, aA, ak⟩ := at_T37 bP.out ac bC bB
                   cases cu
                   replace aw := (HB.out.cell (World.block_lt_of_cell? w _ aw)).trans aw
                   replace aB := (HB.out.cell (World.block_lt_of_cell? w _ aB)).trans aB
                   replace au := (HB.out.cell (World.block_lt_of_cell? w _ au)).trans au
                   replace ax := (HB.out.cell (World.block_lt_of_cell? w _ ax)).trans ax
                   replace av := (HB.out.cell (World.block_lt_of_cell? w _ av)).trans av
                   replace ap := (HB.out.cell (World.block_lt_of_cell? w _ ap)).trans ap
                   replace ay := (HB.out.cell (World.block_lt_of_cell? w _ ay)).trans ay
                   replace ar := (HB.out.cell (World.block_lt_of_cell? w _ ar)).trans ar
                   replace aq := (HB.out.cell (World.block_lt_of_cell? w _ aq)).trans aq
                   replace aA := (HB.out.cell (World.block_lt_of_cell? w _ aA)).trans aA
                   replace ak := (HB.out.cell (World.block_lt_of_cell? w _ ak)).trans ak
                   replace bC := eq_true bC
                   replace bB := eq_true bB
                   go_wp2_with (first | ((with_reducible refine gate_callee (f := 33) rfl ?_); refine goesL_ (some 93) rfl rfl Tryd.func33 (by kernel_rfl) rfl #[.agg #[.string ((rd_T37 ((rd_T32 l0_3 ab).f0) ac).f0), .int .i64 ((rd_T37 ((rd_T32 l0_3 ab).f0) ac).f1), .int .i64 ((rd_T37 ((rd_T32 l0_3 ab).f0) ac).f2), .int .i64 ((rd_T37 ((rd_T32 l0_3 ab).f0) ac).f3.f0), .int .i64 ((rd_T37 ((rd_T32 l0_3 ab).f0) ac).f3.f1), .int .i64 ((rd_T37 ((rd_T32 l0_3 ab).f0) ac).f4.f0), .int .i64 ((rd_T37 ((rd_T32 l0_3 ab).f0) ac).f4.f1), .int .i64 ((rd_T37 ((rd_T32 l0_3 ab).f0) ac).f5.f0), .int .i64 ((rd_T37 ((rd_T32 l0_3 ab).f0) ac).f5.f1), .int .i64 ((rd_T37 ((rd_T32 l0_3 ab).f0) ac).f6.f0), .int .i64 ((rd_T37 ((rd_T32 l0_3 ab).f0) ac).f6.f1)]] rfl (by (try simp only [List.map_toArray, List.map_cons, List.map_nil]); first | done | rfl | (simp only [List.length_drop, List.length_take]; rfl)) ?_; (with_reducible refine (spec_CellOk.calls k4 ((rd_T37 ((rd_T32 l0_3 ab).f0) ac).f0) ((rd_T37 ((rd_T32 l0_3 ab).f0) ac).f1) ((rd_T37 ((rd_T32 l0_3 ab).f0) ac).f2) ((rd_T37 ((rd_T32 l0_3 ab).f0) ac).f3.f0) ((rd_T37 ((rd_T32 l0_3 ab).f0) ac).f3.f1) ((rd_T37 ((rd_T32 l0_3 ab).f0) ac).f4.f0) ((rd_T37 ((rd_T32 l0_3 ab).f0) ac).f4.f1) ((rd_T37 ((rd_T32 l0_3 ab).f0) ac).f5.f0) ((rd_T37 ((rd_T32 l0_3 ab).f0) ac).f5.f1) ((rd_T37 ((rd_T32 l0_3 ab).f0) ac).f6.f0) ((rd_T37 ((rd_T32 l0_3 ab).f0) ac).f6.f1) true _ A36.out).mono ?_); rintro e w39 ⟨rfl, hb⟩; refine ⟨_, rfl, ?_⟩; have n0_ := qb9 (blk_below (g := aC) (by (with_reducible repeat (first | apply blk_drewN | apply blk_drew | apply blk_alloc)); exact aa.out) hb); have n1_ := qb9 (below_step (by repeat (first | (with_reducible first | exact HB.out | apply qd9 | apply qc9 | apply qe9 | refine below_set ?_ ad.out) | exact HB.out)) hb); replace aa := n0_; replace HB := n1_; clear n0_ n1_; (try clear hb hk hi)))
                   go_roundg k4
                   case measure => have := HJ1.out; have := HK2.out; have := HK3.out; have := HK4.out; omega
                   case rel => exact ⟨(wrap64 (ac + 1)), (by first | rfl | (simp; done) | (simp [*]; done)), H', ⟨by have := HJ1.out; have := HK2.out; have := HK3.out; have := HK4.out; omega⟩, ⟨by (with_reducible repeat (first | apply blk_drewN | apply blk_drew | apply blk_alloc)); exact aa.out⟩, ⟨by repeat (first | (with_reducible first | exact HB.out | apply qd9 | apply qc9 | apply qe9 | refine below_set ?_ ad.out) | exact HB.out)⟩⟩
                  ·replace c37 := Bool.eq_false_iff.mpr c37
                   subst c37
                   have H1 : (some false) = some r := by rw [if_neg (show ¬ (false = true) by decide)] at H; exact H
                   clear H
                   have H := H1
                   clear H1
                   obtain rfl := Option.some.inj H
                   have dT := bq9_ aa.out 0 rfl
                   have dt := bq9_ aa.out 1 rfl
                   have dz := bq9_ aa.out 2 rfl
                   have dR := bq9_ aa.out 3 rfl
                   have dr := bq9_ aa.out 4 rfl
                   have dC := qa9 aa.out 0
                   have dl := qa9 aa.out 1
                   have dW := qa9 aa.out 2
                   have dy := qa9 aa.out 3
                   have dE := qa9 aa.out 4
                   have aE : 0 ≤ (ab : Int) := of_decide_eq_true (by first | (with_reducible assumption) | assumption)
                   have aD : ab < (l0_3.length : Int) := of_decide_eq_true (by first | (with_reducible assumption) | assumption)
                   obtain ⟨bM, ct, cr, bS, af, ag, an, am⟩ := at_T32 aK.out ab aE aD
                   obtain rfl : aJ = bM := (by injection bS)
                   replace af := (HB.out.cell (World.block_lt_of_cell? w _ af)).trans af
                   replace ag := (HB.out.cell (World.block_lt_of_cell? w _ ag)).trans ag
                   have cl := qb9 am
                   have bV := qb9 an
                   clear am an
                   replace aE := eq_true aE
                   replace aD := eq_true aD
                   have bD : 0 ≤ (ab : Int) := of_decide_eq_true (by first | (with_reducible assumption) | assumption)
                   have bA : ab < (l0_3.length : Int) := of_decide_eq_true (by first | (with_reducible assumption) | assumption)
                   obtain ⟨cq, c0, dc, cv, ai, az, aH, aI⟩ := at_T32 aK.out ab bD bA
                   obtain rfl : aJ = cq := (by injection cv)
                   replace ai := (HB.out.cell (World.block_lt_of_cell? w _ ai)).trans ai
                   replace az := (HB.out.cell (World.block_lt_of_cell? w _ az)).trans az
                   have bP := qb9 aI
                   have cP := qb9 aH
                   clear aI aH
                   replace bD := eq_true bD
                   replace bA := eq_true bA
                   have ea_ := Option.some.inj (af.symm.trans ai)
                   injection ea_ with ea_ en_ ec_
                   subst ea_
                   subst ec_
                   clear en_
                   have bC : 0 ≤ (ac : Int) := of_decide_eq_true (by first | (with_reducible assumption) | assumption)
                   have bB : ac < (((rd_T32 l0_3 ab).f0).length : Int) := of_decide_eq_true (by first | (with_reducible assumption) | assumption)
                   obtain ⟨de, cu, aw, aB, au, ax, av, ap, ay, ar, aq, aA, ak⟩ := at_T37 bP.out ac bC bB
                   cases cu
                   replace aw := (HB.out.cell (World.block_lt_of_cell? w _ aw)).trans aw
                   replace aB := (HB.out.cell (World.block_lt_of_cell? w _ aB)).trans aB
                   replace au := (HB.out.cell (World.block_lt_of_cell? w _ au)).trans au
                   replace ax := (HB.out.cell (World.block_lt_of_cell? w _ ax)).trans ax
                   replace av := (HB.out.cell (World.block_lt_of_cell? w _ av)).trans av
                   replace ap := (HB.out.cell (World.block_lt_of_cell? w _ ap)).trans ap
                   replace ay := (HB.out.cell (World.block_lt_of_cell? w _ ay)).trans ay
                   replace ar := (HB.out.cell (World.block_lt_of_cell? w _ ar)).trans ar
                   replace aq := (HB.out.cell (World.block_lt_of_cell? w _ aq)).trans aq
                   replace aA := (HB.out.cell (World.block_lt_of_cell? w _ aA)).trans aA
                   replace ak := (HB.out.cell (World.block_lt_of_cell? w _ ak)).trans ak
                   replace bC := eq_true bC
                   replace bB := eq_true bB
                   go_wp2_with (first | ((with_reducible refine gate_callee (f := 33) rfl ?_); refine goesL_ (some 93) rfl rfl Tryd.func33 (by kernel_rfl) rfl #[.agg #[.string ((rd_T37 ((rd_T32 l0_3 ab).f0) ac).f0), .int .i64 ((rd_T37 ((rd_T32 l0_3 ab).f0) ac).f1), .int .i64 ((rd_T37 ((rd_T32 l0_3 ab).f0) ac).f2), .int .i64 ((rd_T37 ((rd_T32 l0_3 ab).f0) ac).f3.f0), .int .i64 ((rd_T37 ((rd_T32 l0_3 ab).f0) ac).f3.f1), .int .i64 ((rd_T37 ((rd_T32 l0_3 ab).f0) ac).f4.f0), .int .i64 ((rd_T37 ((rd_T32 l0_3 ab).f0) ac).f4.f1), .int .i64 ((rd_T37 ((rd_T32 l0_3 ab).f0) ac).f5.f0), .int .i64 ((rd_T37 ((rd_T32 l0_3 ab).f0) ac).f5.f1), .int .i64 ((rd_T37 ((rd_T32 l0_3 ab).f0) ac).f6.f0), .int .i64 ((rd_T37 ((rd_T32 l0_3 ab).f0) ac).f6.f1)]] rfl (by (try simp only [List.map_toArray, List.map_cons, List.map_nil]); first | done | rfl | (simp only [List.length_drop, List.length_take]; rfl)) ?_; (with_reducible refine (spec_CellOk.calls k4 ((rd_T37 ((rd_T32 l0_3 ab).f0) ac).f0) ((rd_T37 ((rd_T32 l0_3 ab).f0) ac).f1) ((rd_T37 ((rd_T32 l0_3 ab).f0) ac).f2) ((rd_T37 ((rd_T32 l0_3 ab).f0) ac).f3.f0) ((rd_T37 ((rd_T32 l0_3 ab).f0) ac).f3.f1) ((rd_T37 ((rd_T32 l0_3 ab).f0) ac).f4.f0) ((rd_T37 ((rd_T32 l0_3 ab).f0) ac).f4.f1) ((rd_T37 ((rd_T32 l0_3 ab).f0) ac).f5.f0) ((rd_T37 ((rd_T32 l0_3 ab).f0) ac).f5.f1) ((rd_T37 ((rd_T32 l0_3 ab).f0) ac).f6.f0) ((rd_T37 ((rd_T32 l0_3 ab).f0) ac).f6.f1) false _ A36.out).mono ?_); rintro e w41 ⟨rfl, hb⟩; refine ⟨_, rfl, ?_⟩; have n0_ := qb9 (blk_below (g := aC) (by (with_reducible repeat (first | apply blk_drewN | apply blk_drew | apply blk_alloc)); exact aa.out) hb); have n1_ := qb9 (below_step (by repeat (first | (with_reducible first | exact HB.out | apply qd9 | apply qc9 | apply qe9 | refine below_set ?_ ad.out) | exact HB.out)) hb); replace aa := n0_; replace HB := n1_; clear n0_ n1_; (try clear hb hk hi)))
                   go_ret
                   exact ⟨by first | rfl | (simp [errW_none, errW_some] <;> rfl) | (simp [*, errW_none, errW_some] <;> rfl), by repeat (first | (with_reducible first | exact HB.out | apply qd9 | apply qc9 | apply qe9 | refine below_set ?_ ad.out) | exact HB.out)⟩
                 ·rw [if_neg c35] at H
                  exact absurd H (by simp)
                ·rw [if_neg c34] at H
                 have dg : decide (ac < (((rd_T32 l0_3 ab).f0).length : Int)) = false := decide_eq_false c34
                 clear c34
                 have H' := qb9 H
                 clear H
                 have dS := bq9_ aa.out 0 rfl
                 have dj := bq9_ aa.out 1 rfl
                 have dB := bq9_ aa.out 2 rfl
                 have dm := bq9_ aa.out 3 rfl
                 have dK := bq9_ aa.out 4 rfl
                 have du := qa9 aa.out 0
                 have dD := qa9 aa.out 1
                 have dk := qa9 aa.out 2
                 have dI := qa9 aa.out 3
                 have dn := qa9 aa.out 4
                 have aE : 0 ≤ (ab : Int) := of_decide_eq_true (by first | (with_reducible assumption) | assumption)
                 have aD : ab < (l0_3.length : Int) := of_decide_eq_true (by first | (with_reducible assumption) | assumption)
                 obtain ⟨bM, ct, cr, bS, af, ag, an, am⟩ := at_T32 aK.out ab aE aD
                 obtain rfl : aJ = bM := (by injection bS)
                 replace af := (HB.out.cell (World.block_lt_of_cell? w _ af)).trans af
                 replace ag := (HB.out.cell (World.block_lt_of_cell? w _ ag)).trans ag
                 have cl := qb9 am
                 have bV := qb9 an
                 clear am an
                 replace aE := eq_true aE
                 replace aD := eq_true aD
                 go_wp2
                 go_roundg k4
                 case measure => have := HJ1.out; have := HK2.out; have := HK3.out; have := HK4.out; omega
                 case rel => exact ⟨(wrap64 (ab + 1)), (by first | rfl | (simp; done) | (simp [*]; done)), H', ⟨by have := HJ1.out; have := HK2.out; have := HK3.out; have := HK4.out; omega⟩, ⟨by (with_reducible repeat (first | apply blk_drewN | apply blk_drew | apply blk_alloc)); exact aa.out⟩, ⟨by repeat (first | (with_reducible first | exact HB.out | apply qd9 | apply qc9 | apply qe9 | refine below_set ?_ ad.out) | exact HB.out)⟩⟩
               ·rw [if_neg c33] at H
                exact absurd H (by simp)
              ·rw [if_neg c32] at H
               exact absurd H (by simp)
          ·rw [if_neg c28] at H
           exact absurd H (by simp)
         ·rw [if_neg c27] at H
          have cz : decide (ab < (l0_3.length : Int)) = false := decide_eq_false c27
          clear c27
          obtain rfl := Option.some.inj H
          have dU := bq9_ aa.out 0 rfl
          have dO := bq9_ aa.out 1 rfl
          have dq := bq9_ aa.out 2 rfl
          have dH := bq9_ aa.out 3 rfl
          have di := bq9_ aa.out 4 rfl
          have dv := qa9 aa.out 0
          have dx := qa9 aa.out 1
          have dP := qa9 aa.out 2
          have dw := qa9 aa.out 3
          have dV := qa9 aa.out 4
          go_wp2
          go_ret
          exact ⟨by first | rfl | (simp [errW_none, errW_some] <;> rfl) | (simp [*, errW_none, errW_some] <;> rfl), by repeat (first | (with_reducible first | exact HB.out | apply qd9 | apply qc9 | apply qe9 | refine below_set ?_ ad.out) | exact HB.out)⟩
end Go.Proofs.YtnednnnegofhkaaDoor.Pr
namespace Go.Proofs.YtnednnnegofhkaaDoor.Pr
open Go.RowKit Go.Proofs.YtnednnnegofhkaaDoorW.PrintWords Go.Proofs.YtnednnnegofhkaaDoorW.PrintLast Go.Proofs.YtnednnnegofhkaaDoorW.PrintMore
attribute [local go_sem] max2_int min2_int max_two min_two max_three min_three max_four min_four
set_option linter.unusedVariables false
set_option linter.unusedSimpArgs false
def impl_in.f (a0 : Int) (a1 : Int) (a2 : Int) : Option (Bool) := if a0 ≥ a1 then (some (decide (a0 ≤ a2))) else (some false)
set_option maxHeartbeats 8000000 in
set_option maxRecDepth 100000 in
theorem impl_in.calls (a0 : Int) (a1 : Int) (a2 : Int) (r : Bool) (w : World) (h : impl_in.f a0 a1 a2 = some r) :
    Calls Tryd.prog 22 #[.int .i64 a0, .int .i64 a1, .int .i64 a2] w fun e w' => e = .returned (.bool r) ∧ Drawn0 w w' := by
  have H : (if a0 ≥ a1 then (some (decide (a0 ≤ a2))) else (some false)) = some r := h
  clear h
  by_cases c4 : a0 ≥ a1
  · rw [if_pos c4] at H
    have c4b0 : decide (a1 ≤ a0) = true := decide_eq_true c4
    clear c4
    obtain rfl := Option.some.inj H
    go_enter Tryd.func22, Tryd.ntmps22
    go_wp2
    go_ret
    exact ⟨by first | rfl | (simp; done) | (simp [*]; done), by repeat (first | exact Drawn0.refl _ | apply Drawn0.step)⟩
  · rw [if_neg c4] at H
    have c4b0 : decide (a1 ≤ a0) = false := decide_eq_false c4
    clear c4
    obtain rfl := Option.some.inj H
    go_enter Tryd.func22, Tryd.ntmps22
    go_wp2
    go_ret
    exact ⟨by first | rfl | (simp; done) | (simp [*]; done), by repeat (first | exact Drawn0.refl _ | apply Drawn0.step)⟩
end Go.Proofs.YtnednnnegofhkaaDoor.Pr
