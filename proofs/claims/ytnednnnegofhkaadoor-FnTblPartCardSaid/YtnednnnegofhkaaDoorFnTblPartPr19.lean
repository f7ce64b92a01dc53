/- A part of what the claim of 'FnTblPart' leans on. -/
import Derived.Test.YtnednnnegofhkaaDoorFnTblPartP0
import Derived.Test.YtnednnnegofhkaaDoorFnTblPartP3
import Derived.Test.YtnednnnegofhkaaDoorFnTblPartPr41
import Derived.Test.YtnednnnegofhkaaDoorFnTblPartPr40
namespace Go.Proofs.YtnednnnegofhkaaDoor.Pr
open Go.RowKit Go.Proofs.YtnednnnegofhkaaDoorW.PrintWords Go.Proofs.YtnednnnegofhkaaDoorW.PrintLast Go.Proofs.YtnednnnegofhkaaDoorW.PrintMore
attribute [local go_sem] max2_int min2_int max_two min_two max_three min_three max_four min_four
set_option linter.unusedVariables false
set_option linter.unusedSimpArgs false
def spec_l20AnyTable.l0 : Nat → List Int → Int → List (S29) → Int → Int → List (S32) → Int → Option ((List (S29)) × Int × Int × (List (S32)) × Int × Int)
  | 0, _, _, _, _, _, _, _ => none
  | k + 1, x1000, x1001, x304000, x304001, x304002, x304003, x304004 => if (x304003.length : Int) ≤ 8 then (if x304003.length < 4398046511104 then (spec_l20AnyTable.l0 k x1000 x1001 x304000 x304001 x304002 (x304003 ++ [(⟨([] : List (S37)), false⟩ : S32)]) x304004) else (none)) else (some (x304000, x304001, x304002, x304003, x304004, x1001))
def spec_l20AnyTable.f (k : Nat) (s0_0 : List Int) (s0_1 : Int) (a1 : Int) : Option ((List (S29)) × Int × Int × (List (S32)) × Int × Int) := (spec_l20Table.f k s0_0 s0_1).bind fun bt293 => ((spec_l20Rd_pick.f k s0_0 bt293.2.2.2.2.2 a1).bind fun bt304 => (if bt304.1 > 0 then (some (bt293.1, bt293.2.1, bt293.2.2.1, bt293.2.2.2.1, bt293.2.2.2.2.1, bt304.2)) else ((spec_l20Rd_pick.f k s0_0 bt304.2 (bt293.2.2.2.1.length : Int)).bind fun bt306 => ((spec_l20Rd_pick.f k s0_0 bt306.2 6).bind fun bt308 => (if bt308.1 = 0 then ((some (([(-1), 9, (bt293.2.2.2.1.length : Int)] : List Int) : List Int)).bind fun y310 => ((spec_l20Rd_pick.f k s0_0 bt308.2 3).bind fun bt313 => (if 0 ≤ bt313.1 then (if bt313.1 < (y310.length : Int) then (some (bt293.1, rd y310 bt313.1, bt293.2.2.1, bt293.2.2.2.1, bt293.2.2.2.2.1, bt313.2)) else (none)) else (none)))) else (if bt308.1 = 1 then ((some (([(-1), 9, (bt293.2.2.2.1.length : Int)] : List Int) : List Int)).bind fun y316 => ((spec_l20Rd_pick.f k s0_0 bt308.2 3).bind fun bt319 => (if 0 ≤ bt319.1 then (if bt319.1 < (y316.length : Int) then (some (bt293.1, bt293.2.1, rd y316 bt319.1, bt293.2.2.2.1, bt293.2.2.2.2.1, bt319.2)) else (none)) else (none)))) else (if bt308.1 = 2 then ((some (([(-1), 4] : List Int) : List Int)).bind fun y322 => ((spec_l20Rd_pick.f k s0_0 bt308.2 2).bind fun bt325 => (if 0 ≤ bt325.1 then (if bt325.1 < (y322.length : Int) then (some (bt293.1, bt293.2.1, bt293.2.2.1, bt293.2.2.2.1, rd y322 bt325.1, bt325.2)) else (none)) else (none)))) else (if bt308.1 = 3 then ((spec_l20Rd_pick.f k s0_0 bt308.2 4).bind fun bt328 => ((some (([(-1), 0, 61, 101] : List Int) : List Int)).bind fun y330 => ((spec_l20Rd_pick.f k s0_0 bt328.2 4).bind fun bt333 => (if 0 ≤ bt333.1 then (if bt333.1 < (y330.length : Int) then (if bt293.1.length < 8796093022208 then (some ((bt293.1 ++ [(⟨bt328.1, rd y330 bt333.1⟩ : S29)]), bt293.2.1, bt293.2.2.1, bt293.2.2.2.1, bt293.2.2.2.2.1, bt333.2)) else (none)) else (none)) else (none))))) else (if bt308.1 = 4 then (if 0 ≤ bt306.1 then (if bt306.1 < (bt293.2.2.2.1.length : Int) then ((spec_l20Cell.f k s0_0 bt308.2 1).bind fun bt340 => (if ((rd_T32 bt293.2.2.2.1 bt306.1).f0).length < 1466015503701 then (some (bt293.1, bt293.2.1, bt293.2.2.1, (bt293.2.2.2.1.set (bt306.1 : Int).toNat (⟨(((rd_T32 bt293.2.2.2.1 bt306.1).f0) ++ [(⟨bt340.1, bt340.2.1, bt340.2.2.1, (⟨bt340.2.2.2.1, bt340.2.2.2.2.1⟩ : S35), (⟨bt340.2.2.2.2.2.1, bt340.2.2.2.2.2.2.1⟩ : S35), (⟨bt340.2.2.2.2.2.2.2.1, bt340.2.2.2.2.2.2.2.2.1⟩ : S35), (⟨bt340.2.2.2.2.2.2.2.2.2.1, bt340.2.2.2.2.2.2.2.2.2.2.1⟩ : S35)⟩ : S37)]), (rd_T32 bt293.2.2.2.1 bt306.1).f1⟩ : S32)), bt293.2.2.2.2.1, bt340.2.2.2.2.2.2.2.2.2.2.2)) else (none))) else (none)) else (none)) else (spec_l20AnyTable.l0 k s0_0 bt308.2 bt293.1 bt293.2.1 bt293.2.2.1 bt293.2.2.2.1 bt293.2.2.2.2.1))))))))))
theorem spec_l20AnyTable.mono_l : ∀ k, (∀ y0 y1 y2 y3 y4 y5 y6, LeO (spec_l20AnyTable.l0 k y0 y1 y2 y3 y4 y5 y6) (spec_l20AnyTable.l0 (k + 1) y0 y1 y2 y3 y4 y5 y6))
  | 0 => fun _ _ _ _ _ _ _ r h => by simp [spec_l20AnyTable.l0] at h
  | k + 1 => by
    have ih0 := spec_l20AnyTable.mono_l k
    · intro y0 y1 y2 y3 y4 y5 y6
      unfold spec_l20AnyTable.l0
      repeat' first
      | (with_reducible exact ih0 _ _ _ _ _ _ _)
      | (with_reducible exact spec_l20Cell.mono _ _ _ _)
      | (with_reducible exact spec_l20Rd_pick.mono _ _ _ _)
      | (with_reducible exact spec_l20Table.mono _ _ _)
      | (with_reducible exact LeO.refl _)
      | (with_reducible exact LeO.none _)
      | (with_reducible refine LeO.ite ?_ ?_)
      | (with_reducible refine LeO.bind ?_ (fun _ => ?_))
      | exact ih0 _ _ _ _ _ _ _
      | exact spec_l20Cell.mono _ _ _ _
      | exact spec_l20Rd_pick.mono _ _ _ _
      | exact spec_l20Table.mono _ _ _
      | exact LeO.none _
      | refine LeO.ite ?_ ?_
      | refine LeO.bind ?_ (fun _ => ?_)
theorem spec_l20AnyTable.mono : ∀ a0 a1 a2 k, LeO (spec_l20AnyTable.f k a0 a1 a2) (spec_l20AnyTable.f (k + 1) a0 a1 a2) := by
  intro a0 a1 a2 k
  have ih0 := spec_l20AnyTable.mono_l k
  unfold spec_l20AnyTable.f
  repeat' first
      | (with_reducible exact ih0 _ _ _ _ _ _ _)
      | (with_reducible exact spec_l20Cell.mono _ _ _ _)
      | (with_reducible exact spec_l20Rd_pick.mono _ _ _ _)
      | (with_reducible exact spec_l20Table.mono _ _ _)
      | (with_reducible exact LeO.refl _)
      | (with_reducible exact LeO.none _)
      | (with_reducible refine LeO.ite ?_ ?_)
      | (with_reducible refine LeO.bind ?_ (fun _ => ?_))
      | exact ih0 _ _ _ _ _ _ _
      | exact spec_l20Cell.mono _ _ _ _
      | exact spec_l20Rd_pick.mono _ _ _ _
      | exact spec_l20Table.mono _ _ _
      | exact LeO.none _
      | refine LeO.ite ?_ ?_
      | refine LeO.bind ?_ (fun _ => ?_)
def spec_l20AnyTable.T9 : Bool × List (List Nat × List Nat) := (true, [([], []), ([0], [0]), ([1], [1]), ([2], [2]), ([], []), ([4], [4]), ([3, 5], [3, 5]), ([6], [6]), ([0, 1, 2, 3, 4, 5, 6, 7], []), ([8, 7, 5, 0, 1, 2, 3, 4, 5, 6, 7], [7, 8])])
def spec_l20AnyTable.B9 : List Nat := [0, 1, 3, 7, 0, 16, 63, 127, 255, 511]
theorem spec_l20AnyTable.tab9 : rtab .any (opsOf Tryd.f19 9) = spec_l20AnyTable.T9 := by kernel_rfl
theorem spec_l20AnyTable.bits9 : waitsOk spec_l20AnyTable.T9.2 spec_l20AnyTable.B9 = true := by kernel_rfl
def spec_l20AnyTable.T11 : Bool × List (List Nat × List Nat) := (true, [([], []), ([0], [0]), ([1], [1]), ([2], [2]), ([], []), ([4], [4]), ([3, 5], [3, 5]), ([6], [6]), ([0, 1, 2, 3, 4, 5, 6, 7], []), ([8, 7, 5, 0, 1, 2, 3, 4, 5, 6, 7], [7, 8])])
def spec_l20AnyTable.B11 : List Nat := [0, 1, 3, 7, 0, 16, 63, 127, 255, 511]
theorem spec_l20AnyTable.tab11 : rtab .any (opsOf Tryd.f19 11) = spec_l20AnyTable.T11 := by kernel_rfl
theorem spec_l20AnyTable.bits11 : waitsOk spec_l20AnyTable.T11.2 spec_l20AnyTable.B11 = true := by kernel_rfl
def spec_l20AnyTable.T15 : Bool × List (List Nat × List Nat) := (true, [([], []), ([0], [0]), ([], []), ([2], [2]), ([], []), ([], []), ([5, 3], [5]), ([4, 6], [4, 6]), ([7], [7]), ([3, 8], [3, 8]), ([9], [9]), ([1, 10, 6], [1, 10]), ([0, 1, 2, 3, 4, 5, 6, 7, 8, 9, 10, 11], []), ([12, 11, 11, 0, 1, 2, 3, 4, 5, 6, 7, 8, 9, 10, 11], [11, 12])])
def spec_l20AnyTable.B15 : List Nat := [0, 1, 0, 4, 0, 0, 44, 124, 252, 508, 1020, 2047, 4095, 8191]
theorem spec_l20AnyTable.tab15 : rtab .any (opsOf Tryd.f19 15) = spec_l20AnyTable.T15 := by kernel_rfl
theorem spec_l20AnyTable.bits15 : waitsOk spec_l20AnyTable.T15.2 spec_l20AnyTable.B15 = true := by kernel_rfl
def spec_l20AnyTable.T17 : Bool × List (List Nat × List Nat) := (true, [([], []), ([0], [0]), ([], []), ([], []), ([3], [3]), ([], []), ([4, 5], [4, 5]), ([6], [6]), ([7], [7]), ([], []), ([9], [9]), ([10], [10]), ([8, 11, 10], [8, 11]), ([1, 2, 0, 1, 2, 3, 4, 5, 6, 7, 8, 9, 10, 11, 12], [1, 2]), ([13, 0, 1, 2, 3, 4, 5, 6, 7, 8, 9, 10, 11, 12], [13]), ([14, 12, 12, 0, 1, 2, 3, 4, 5, 6, 7, 8, 9, 10, 11, 12], [12, 14])])
def spec_l20AnyTable.B17 : List Nat := [0, 1, 0, 0, 8, 0, 56, 120, 248, 0, 512, 1536, 4088, 8191, 16383, 32767]
theorem spec_l20AnyTable.tab17 : rtab .any (opsOf Tryd.f19 17) = spec_l20AnyTable.T17 := by kernel_rfl
theorem spec_l20AnyTable.bits17 : waitsOk spec_l20AnyTable.T17.2 spec_l20AnyTable.B17 = true := by kernel_rfl
abbrev m19_0 : Array Bool := #[false, false, false, false, false, false, false, false, false, false]
abbrev m19_1 : Array Bool := #[true, false, false, false, false, false, false, false, false, false]
abbrev m19_2 : Array Bool := #[true, false, false, false, true, false, false, false, false, false]
abbrev m19_3 : Array Bool := #[true, true, false, false, true, false, false, false, false, false]
abbrev m19_4 : Array Bool := #[true, true, true, false, true, false, false, false, false, false]
abbrev m19_5 : Array Bool := #[true, true, true, true, true, true, false, false, false, false]
abbrev m19_6 : Array Bool := #[true, true, true, true, true, false, false, false, false, false]
abbrev m19_7 : Array Bool := #[true, true, true, false, true, true, false, false, false, false]
abbrev m19_8 : Array Bool := #[true, true, true, true, true, true, true, false, false, false]
abbrev m19_9 : Array Bool := #[true, true, true, true, true, true, true, true, false, false]
abbrev m19_10 : Array Bool := #[true, true, true, true, true, true, true, true, true, false]
abbrev m19_11 : Array Bool := #[true, true, true, true, true, true, true, true, true, true]
abbrev m19_12 : Array Bool := #[false, false, false, false, false, false, false, false, false, false, false, false, false, false]
abbrev m19_13 : Array Bool := #[true, false, false, false, false, false, false, false, false, false, false, false, false, false]
abbrev m19_14 : Array Bool := #[true, false, true, false, false, false, false, false, false, false, false, false, false, false]
abbrev m19_15 : Array Bool := #[true, false, true, false, false, true, false, false, false, false, false, false, false, false]
abbrev m19_16 : Array Bool := #[true, true, true, false, false, true, false, false, false, false, false, false, false, false]
abbrev m19_17 : Array Bool := #[true, true, true, true, true, true, true, false, false, false, false, false, false, false]
abbrev m19_18 : Array Bool := #[true, true, true, true, false, true, false, false, false, false, false, false, false, false]
abbrev m19_19 : Array Bool := #[true, true, true, false, true, true, false, false, false, false, false, false, false, false]
abbrev m19_20 : Array Bool := #[true, true, true, true, true, true, false, false, false, false, false, false, false, false]
abbrev m19_21 : Array Bool := #[true, true, true, true, false, true, true, false, false, false, false, false, false, false]
abbrev m19_22 : Array Bool := #[true, true, true, true, true, true, true, true, false, false, false, false, false, false]
abbrev m19_23 : Array Bool := #[true, true, true, true, true, true, true, true, true, false, false, false, false, false]
abbrev m19_24 : Array Bool := #[true, true, true, true, true, true, true, true, true, true, false, false, false, false]
abbrev m19_25 : Array Bool := #[true, true, true, true, true, true, true, true, true, true, true, false, false, false]
abbrev m19_26 : Array Bool := #[true, true, true, true, true, true, true, true, true, true, true, true, false, false]
abbrev m19_27 : Array Bool := #[true, true, true, true, true, true, true, true, true, true, true, true, true, false]
abbrev m19_28 : Array Bool := #[true, true, true, true, true, true, true, true, true, true, true, true, true, true]
abbrev m19_29 : Array Bool := #[false, false, false, false, false, false, false, false, false, false, false, false, false, false, false, false]
abbrev m19_30 : Array Bool := #[true, false, false, false, false, false, false, false, false, false, false, false, false, false, false, false]
abbrev m19_31 : Array Bool := #[true, false, true, false, false, false, false, false, false, false, false, false, false, false, false, false]
abbrev m19_32 : Array Bool := #[true, false, true, true, false, false, false, false, false, false, false, false, false, false, false, false]
abbrev m19_33 : Array Bool := #[true, false, true, true, false, true, false, false, false, false, false, false, false, false, false, false]
abbrev m19_34 : Array Bool := #[true, false, true, true, false, true, false, false, false, true, false, false, false, false, false, false]
abbrev m19_35 : Array Bool := #[true, true, true, true, false, true, false, false, false, true, false, false, false, false, false, false]
abbrev m19_36 : Array Bool := #[true, true, true, true, true, true, false, false, false, true, false, false, false, false, false, false]
abbrev m19_37 : Array Bool := #[true, true, true, true, true, true, true, false, false, true, false, false, false, false, false, false]
abbrev m19_38 : Array Bool := #[true, true, true, true, true, true, true, true, false, true, false, false, false, false, false, false]
abbrev m19_39 : Array Bool := #[true, true, true, true, true, true, true, true, true, true, false, false, false, false, false, false]
abbrev m19_40 : Array Bool := #[true, true, true, true, true, true, true, true, true, true, true, false, false, false, false, false]
abbrev m19_41 : Array Bool := #[true, true, true, true, true, true, true, true, true, true, true, true, false, false, false, false]
abbrev m19_42 : Array Bool := #[true, true, true, true, true, true, true, true, true, true, true, true, true, false, false, false]
abbrev m19_43 : Array Bool := #[true, true, true, true, true, true, true, true, true, true, true, true, true, true, false, false]
abbrev m19_44 : Array Bool := #[true, true, true, true, true, true, true, true, true, true, true, true, true, true, true, false]
abbrev m19_45 : Array Bool := #[true, true, true, true, true, true, true, true, true, true, true, true, true, true, true, true]
theorem bq19_ {w : World} {g : Nat} {t : TypeId} {cs : Array Value} {v : Value} (h : w.heap[g]? = some (.cells cs t (0, 0))) (i : Nat) (e : cs[i]? = some v) : w.cell? ⟨g, i, none⟩ = some v := (blk_cell h i).trans e
abbrev qa19 := @Aside0.mk
abbrev qb19 := @blk_frozen
abbrev qc19 := @blk_cell
abbrev qd19 := @KeepBut.trans
abbrev qe19 := @KeepBut.blk
abbrev qf19 := @Kd.R_far
abbrev qg19 := @Kd.S_far
abbrev qh19 := @List.map_toArray
abbrev qi19 := @IsS71.far
abbrev qj19 := @blk_alloc
abbrev qk19 := @Kd.R_mono
abbrev ql19 := @List.map_cons
abbrev qm19 := @blk_drew
abbrev qn19 := @below_set
abbrev qo19 := @blk_drewN
abbrev qp19 := @List.map_nil
abbrev qq19 := @Kd.S_mono
abbrev qr19 := @IsS71.apart
abbrev qs19 := @IsS71.apartS
abbrev qt19 := @KeepBut.of_below
abbrev qu19 := @IsS71.drew
abbrev qv19 := @IsS71.alloc
abbrev qw19 := @IsS71.drewN
abbrev qx19 := @IsS71.set_1
abbrev qy19 := @Kd.R_keep
abbrev qz19 := @keep_far
abbrev qA19 := @Kd.S_keep
abbrev qB19 := @IsS71.below
abbrev qC19 := @pw_below_drewN
abbrev qD19 := @below_drew1
abbrev qE19 := @KeepBut.set_
abbrev qF19 := @below_step
set_option maxHeartbeats 8000000 in
set_option maxRecDepth 100000 in
theorem spec_l20AnyTable.calls (k : Nat) (g : Nat) (s0_0 : List Int) (s0_1 : Int) (a1 : Int) (r1 : List (S29)) (r2 : Int) (r3 : Int) (r4 : List (S32)) (r5 : Int) (r6 : Int) (w0 w : World) (hI : IsS71 w0 w g s0_0 s0_1) (hB : Below w0.heap.size w0 w) (h : spec_l20AnyTable.f k s0_0 s0_1 a1 = some (r1, r2, r3, r4, r5, r6)) :
  Calls Tryd.prog 19 #[.pointer (some ⟨g, 0, none⟩), .int .i64 a1] w fun e w' => ∃ v0_ v3_ : Value, e = .returned (.agg #[v0_, .int .i64 r2, .int .i64 r3, v3_, .int .i64 r5]) ∧ Kd.R k29 29 w' w.heap.size (fun _ => True) v0_ r1 ∧ Kd.S k32 32 w' w.heap.size (fun _ => True) v3_ r4 ∧ IsS71 w0 w' g s0_0 r6 ∧ Below w0.heap.size w0 w' ∧ KeepBut w w' g none := by
 have hu26 := Tryd.underlying26
 have hu29 := Tryd.underlying29
 have hu32 := Tryd.underlying32
 have HI0 := qa19 hI
 have HK := qa19 (KeepBut.refl w g none)
 have HL := qa19 hB.size
 clear hI
 have HW0 := qa19 hB.size
 have HB := qa19 hB
 clear hB
 have H := h
 unfold spec_l20AnyTable.f at H
 clear h
 replace H := Option.bind_eq_some_iff.mp H
 obtain ⟨⟨ah, ai, aj, af, al, ax⟩, A30, H⟩ := H
 (try dsimp only at H)
 have A3 := qa19 A30
 clear A30
 replace H := Option.bind_eq_some_iff.mp H
 obtain ⟨⟨bu, aX⟩, A40, H⟩ := H
 (try dsimp only at H)
 have A4 := qa19 A40
 clear A40
 by_cases c5 : bu > 0
 ·rw [if_pos c5] at H
  have gl : decide (0 < bu) = true := decide_eq_true c5
  clear c5
  simp only [Option.some.injEq, Prod.mk.injEq] at H
  obtain ⟨rfl, rfl, rfl, rfl, rfl, rfl⟩ := H
  go_enter Tryd.func19, Tryd.ntmps19
  go_wp2_with (first | ((with_reducible refine gate_dst (N := 4) rfl ?_); refine box_event ?hg (N := 4) ?hd (cs := #[.slice none 0 0, .int .i64 0, .int .i64 0, .slice none 0 0, .int .i64 0]) (t := 26) ?hr ?_; (case hd => rfl); (case hg => rfl); (case hr => go_simp <;> rfl); intro ad hg w6 hbox hb; have n0_ := qa19 (qB19 HI0.out hb); have n1_ := qa19 (qd19 HK.out (qt19 hb g none) (.inl rfl)); have n2_ := qa19 (qF19 HB.out hb); have n3_ := qa19 (hbox); have n4_ := qa19 ((by rw [hg]; exact (keep_size (w := w) (g := g) (row := none) HK.out) : w.heap.size ≤ ad)); have n5_ := qa19 (Nat.le_trans HW0.out n4_.out); have n6_ := qa19 ((by rw [hg]; exact Nat.ne_of_lt (IsS71.lt (show IsS71 w0 _ g s0_0 s0_1 from HI0.out)) : g ≠ ad)); have n7_ := qa19 (Ne.symm n6_.out); replace HI0 := n0_; replace HK := n1_; replace HB := n2_; have ab := n3_; have aC := n4_; have aH := n5_; have ap := n6_; have am := n7_; clear n0_ n1_ n2_ n3_ n4_ n5_ n6_ n7_; clear hb hbox hg) | ((with_reducible refine gate_callee (f := 40) rfl ?_); refine goesL_ (some 8) rfl rfl Tryd.func40 (by kernel_rfl) rfl #[.pointer (some ⟨g, 0, none⟩)] rfl (by (try simp only [qh19, ql19, qp19]) <;> rfl) ?_; (with_reducible refine (spec_l20Table.calls k g s0_0 s0_1 ah ai aj af al ax w0 _ ?side1 ?side2 A3.out).mono ?_); (case side1 => exact HI0.out); (case side2 => exact HB.out); rintro e w7 ⟨b2, b4, rfl, ho0, ho1, hi, hb, hk⟩; refine ⟨_, rfl, ?_⟩; have n0_ := qa19 (qe19 hk (g' := ad) (o := .cells #[.slice none 0 0, .int .i64 0, .int .i64 0, .slice none 0 0, .int .i64 0] 26 (0, 0)) ab.out am.out (by simp)); have n1_ := qa19 (Kd.R_lower ho0 (keep_size (w := w) (g := g) (row := none) HK.out)); have n2_ := qa19 (Kd.S_lower ho1 (keep_size (w := w) (g := g) (row := none) HK.out)); have n3_ := qa19 (qd19 HK.out hk (.inl rfl)); have n4_ := qa19 (hb); have n5_ := qa19 (hi); replace ab := n0_; have ag := n1_; have ae := n2_; replace HK := n3_; replace HB := n4_; replace HI0 := n5_; clear n0_ n1_ n2_ n3_ n4_ n5_; (try clear hb hk hi); (try clear ho0); (try clear ho1)) | ((with_reducible refine gate_dst (N := 5) rfl ?_); refine box_event ?hg (N := 5) ?hd (cs := #[.slice none 0 0, .int .i64 0, .int .i64 0, .slice none 0 0, .int .i64 0]) (t := 26) ?hr ?_; (case hd => rfl); (case hg => rfl); (case hr => go_simp <;> rfl); intro ac hg w8 hbox hb; have n0_ := qa19 (Kd.R_below ag.out hb); have n1_ := qa19 (Kd.S_below ae.out hb); have n2_ := qa19 (qB19 HI0.out hb); have n3_ := qa19 (blk_below (g := ad) (o := .cells #[.slice none 0 0, .int .i64 0, .int .i64 0, .slice none 0 0, .int .i64 0] 26 (0, 0)) ab.out hb); have n4_ := qa19 (qd19 HK.out (qt19 hb g none) (.inl rfl)); have n5_ := qa19 (qF19 HB.out hb); have n6_ := qa19 (hbox); have n7_ := qa19 ((by rw [hg]; exact (keep_size (w := w) (g := g) (row := none) HK.out) : w.heap.size ≤ ac)); have n8_ := qa19 (Nat.le_trans HW0.out n7_.out); have n9_ := qa19 ((by rw [hg]; exact Nat.ne_of_lt (blk_lt (g := ad) (o := .cells #[.slice none 0 0, .int .i64 0, .int .i64 0, .slice none 0 0, .int .i64 0] 26 (0, 0)) ab.out) : ad ≠ ac)); have a9 := qa19 (Ne.symm n9_.out); have aM := qa19 ((by rw [hg]; exact Nat.ne_of_lt (IsS71.lt (show IsS71 w0 _ g s0_0 ax from HI0.out)) : g ≠ ac)); have a7 := qa19 (Ne.symm aM.out); replace ag := n0_; replace ae := n1_; replace HI0 := n2_; replace ab := n3_; replace HK := n4_; replace HB := n5_; have aa := n6_; have aD := n7_; have aG := n8_; have ak := n9_; have ar := a9; have an := aM; have ao := a7; clear n0_ n1_ n2_ n3_ n4_ n5_ n6_ n7_ n8_ n9_ a9 aM a7; clear hb hbox hg; obtain ⟨Ao9, co9, eo9⟩ := Kd.R_slice ag.out; subst eo9; have hnb10 := ar.out; have hnc10 := ak.out; have hnb11 := ao.out; have hnc11 := an.out; have lf := bq19_ aa.out 0 rfl; have hY := bq19_ aa.out 1 rfl; have jQ := bq19_ aa.out 2 rfl; have ja := bq19_ aa.out 3 rfl; have jF := bq19_ aa.out 4 rfl; have hQ := qb19 aa.out 0; have jV := qb19 aa.out 1; have kG := qb19 aa.out 2; have j0 := qb19 aa.out 3; have k4 := qb19 aa.out 4; obtain ⟨bD, bB, g9⟩ := Kd.S_slice ae.out; subst g9) | ((with_reducible refine gate_callee (f := 34) rfl ?_); refine goesL_ (some 11) rfl rfl Tryd.func34 (by kernel_rfl) rfl #[.pointer (some ⟨g, 0, none⟩), .int .i64 a1] rfl (by (try simp only [qh19, ql19, qp19]) <;> rfl) ?_; (with_reducible refine (spec_l20Rd_pick.calls k g s0_0 ax a1 bu aX w0 _ ?side1 ?side2 A4.out).mono ?_); (case side1 => repeat (first | (with_reducible first | exact HI0.out | apply qv19 | apply qw19 | apply qu19 | apply qx19 | refine qi19 ?_ ap.out _ | refine qi19 ?_ an.out _) | exact HI0.out)); (case side2 => repeat (first | (with_reducible first | exact HB.out | apply below_alloc | apply qC19 | apply qD19 | refine qn19 ?_ (IsS71.ge HI0.out) | refine qn19 ?_ aH.out | refine qn19 ?_ aG.out) | exact HB.out)); rintro e w14 ⟨rfl, hi, hb, hk⟩; refine ⟨_, rfl, ?_⟩; have n0_ := qa19 (qe19 hk (g' := ad) (o := .cells #[.slice none 0 0, .int .i64 0, .int .i64 0, .slice none 0 0, .int .i64 0] 26 (0, 0)) (by (with_reducible repeat (first | apply qo19 | apply qm19 | apply qj19)); refine blk_far ?_ ak.out _; refine blk_far ?_ ak.out _; refine blk_far ?_ ak.out _; refine blk_far ?_ ak.out _; refine blk_far ?_ ak.out _; (with_reducible repeat (first | apply qo19 | apply qm19 | apply qj19)); exact ab.out) am.out (by simp)); have n1_ := qa19 (qk19 (qy19 (qr19 (show IsS71 w0 _ g s0_0 ax from by repeat (first | (with_reducible first | exact HI0.out | apply qv19 | apply qw19 | apply qu19 | apply qx19 | refine qi19 ?_ ap.out _ | refine qi19 ?_ an.out _) | exact HI0.out)) (by (with_reducible repeat (first | apply Kd.R_alloc | apply Kd.R_drewN | apply Kd.R_drew)); exact (qk19 (qf19 (p := ⟨ac, 4, none⟩) (qf19 (p := ⟨ac, 3, none⟩) (qf19 (p := ⟨ac, 2, none⟩) (qf19 (p := ⟨ac, 1, none⟩) (qf19 (p := ⟨ac, 0, none⟩) (Kd.R_types ag.out aa.out (by decide)) (fun _ hk => hk.2) (.slice Ao9 ah.length co9)) (fun _ hk => hk.2) (.int .i64 ai)) (fun _ hk => hk.2) (.int .i64 aj)) (fun _ hk => hk.2) (.slice bD af.length bB)) (fun _ hk => hk.2) (.int .i64 al)) (fun _ h_ => h_.1))) (by decide)) hk (fun _ h => h.2)) (fun _ h => h.1)); have n2_ := qa19 (qq19 (qA19 (qs19 (show IsS71 w0 _ g s0_0 ax from by repeat (first | (with_reducible first | exact HI0.out | apply qv19 | apply qw19 | apply qu19 | apply qx19 | refine qi19 ?_ ap.out _ | refine qi19 ?_ an.out _) | exact HI0.out)) (by (with_reducible repeat (first | apply Kd.S_alloc | apply Kd.S_drewN | apply Kd.S_drew)); exact (qq19 (qg19 (p := ⟨ac, 4, none⟩) (qg19 (p := ⟨ac, 3, none⟩) (qg19 (p := ⟨ac, 2, none⟩) (qg19 (p := ⟨ac, 1, none⟩) (qg19 (p := ⟨ac, 0, none⟩) (Kd.S_types ae.out aa.out (by decide)) (fun _ hk => hk.2) (.slice Ao9 ah.length co9)) (fun _ hk => hk.2) (.int .i64 ai)) (fun _ hk => hk.2) (.int .i64 aj)) (fun _ hk => hk.2) (.slice bD af.length bB)) (fun _ hk => hk.2) (.int .i64 al)) (fun _ h_ => h_.1))) (by decide)) hk (fun _ h => h.2)) (fun _ h => h.1)); have n3_ := qa19 (qe19 hk (g' := ac) (o := .cells #[.slice Ao9 ah.length co9, .int .i64 ai, .int .i64 aj, .slice bD af.length bB, .int .i64 al] 26 (0, 0)) (by (with_reducible repeat (first | apply qo19 | apply qm19 | apply qj19)); refine blk_put (cs := #[.slice Ao9 ah.length co9, .int .i64 ai, .int .i64 aj, .slice bD af.length bB, .int .i64 0]) ?_ 4 _ rfl; refine blk_put (cs := #[.slice Ao9 ah.length co9, .int .i64 ai, .int .i64 aj, .slice none 0 0, .int .i64 0]) ?_ 3 _ rfl; refine blk_put (cs := #[.slice Ao9 ah.length co9, .int .i64 ai, .int .i64 0, .slice none 0 0, .int .i64 0]) ?_ 2 _ rfl; refine blk_put (cs := #[.slice Ao9 ah.length co9, .int .i64 0, .int .i64 0, .slice none 0 0, .int .i64 0]) ?_ 1 _ rfl; refine blk_put (cs := #[.slice none 0 0, .int .i64 0, .int .i64 0, .slice none 0 0, .int .i64 0]) ?_ 0 _ rfl; (with_reducible repeat (first | apply qo19 | apply qm19 | apply qj19)); exact aa.out) ao.out (by simp)); have n4_ := qa19 (qd19 (by repeat (first | (with_reducible first | exact HK.out | apply qE19 | apply keep_drewN | apply keep_drew | apply keep_alloc | refine qz19 ?_ aC.out _ | refine qz19 ?_ aD.out _) | exact HK.out)) hk (.inl rfl)); have n5_ := qa19 (hb); have n6_ := qa19 (hi); replace ab := n0_; replace ag := n1_; replace ae := n2_; replace aa := n3_; replace HK := n4_; replace HB := n5_; replace HI0 := n6_; clear n0_ n1_ n2_ n3_ n4_ n5_ n6_; (try clear hb hk hi); have kp := bq19_ aa.out 0 rfl; have jq := bq19_ aa.out 1 rfl; have hW := bq19_ aa.out 2 rfl; have kJ := bq19_ aa.out 3 rfl; have kg := bq19_ aa.out 4 rfl; have jR := qb19 aa.out 0; have kL := qb19 aa.out 1; have hZ := qb19 aa.out 2; have kn := qb19 aa.out 3; have jk := qb19 aa.out 4; have hnb16 := am.out; have hnc16 := ap.out; have k9 := bq19_ ab.out 0 rfl; have h1 := bq19_ ab.out 1 rfl; have kR := bq19_ ab.out 2 rfl; have jP := bq19_ ab.out 3 rfl; have jK := bq19_ ab.out 4 rfl; have j9 := qb19 ab.out 0; have jp := qb19 ab.out 1; have j7 := qb19 ab.out 2; have kC := qb19 ab.out 3; have k8 := qb19 ab.out 4))
  refine bodyPost_ret (results_cell_row rfl _ _ ad 26 #[.slice Ao9 ah.length co9, .int .i64 ai, .int .i64 aj, .slice bD af.length bB, .int .i64 al] (0, 0) _ rfl (by (with_reducible repeat (first | apply qo19 | apply qm19 | apply qj19)); refine blk_put (cs := #[.slice Ao9 ah.length co9, .int .i64 ai, .int .i64 aj, .slice bD af.length bB, .int .i64 0]) ?_ 4 _ rfl; refine blk_put (cs := #[.slice Ao9 ah.length co9, .int .i64 ai, .int .i64 aj, .slice none 0 0, .int .i64 0]) ?_ 3 _ rfl; refine blk_put (cs := #[.slice Ao9 ah.length co9, .int .i64 ai, .int .i64 0, .slice none 0 0, .int .i64 0]) ?_ 2 _ rfl; refine blk_put (cs := #[.slice Ao9 ah.length co9, .int .i64 0, .int .i64 0, .slice none 0 0, .int .i64 0]) ?_ 1 _ rfl; refine blk_put (cs := #[.slice none 0 0, .int .i64 0, .int .i64 0, .slice none 0 0, .int .i64 0]) ?_ 0 _ rfl; (with_reducible repeat (first | apply qo19 | apply qm19 | apply qj19)); exact ab.out) Tryd.underlying26 rfl (by kernel_rfl)) rfl ?_
  exact ⟨_, _, by first | rfl | (simp [errW_none, errW_some] <;> rfl) | (simp [*, errW_none, errW_some] <;> rfl), by (with_reducible repeat (first | apply Kd.R_alloc | apply Kd.R_drewN | apply Kd.R_drew)); exact qk19 (qf19 (p := ⟨ad, 4, none⟩) (qf19 (p := ⟨ad, 3, none⟩) (qf19 (p := ⟨ad, 2, none⟩) (qf19 (p := ⟨ad, 1, none⟩) (qf19 (p := ⟨ad, 0, none⟩) (Kd.R_types ag.out ab.out (by decide)) (fun _ hk => hk.2) (.slice Ao9 ah.length co9)) (fun _ hk => hk.2) (.int .i64 ai)) (fun _ hk => hk.2) (.int .i64 aj)) (fun _ hk => hk.2) (.slice bD af.length bB)) (fun _ hk => hk.2) (.int .i64 al)) (fun _ hk => trivial), by (with_reducible repeat (first | apply Kd.S_alloc | apply Kd.S_drewN | apply Kd.S_drew)); exact qq19 (qg19 (p := ⟨ad, 4, none⟩) (qg19 (p := ⟨ad, 3, none⟩) (qg19 (p := ⟨ad, 2, none⟩) (qg19 (p := ⟨ad, 1, none⟩) (qg19 (p := ⟨ad, 0, none⟩) (Kd.S_types ae.out ab.out (by decide)) (fun _ hk => hk.2) (.slice Ao9 ah.length co9)) (fun _ hk => hk.2) (.int .i64 ai)) (fun _ hk => hk.2) (.int .i64 aj)) (fun _ hk => hk.2) (.slice bD af.length bB)) (fun _ hk => hk.2) (.int .i64 al)) (fun _ hk => trivial), by repeat (first | (with_reducible first | exact HI0.out | apply qv19 | apply qw19 | apply qu19 | apply qx19 | refine qi19 ?_ ap.out _ | refine qi19 ?_ an.out _) | exact HI0.out), by repeat (first | (with_reducible first | exact HB.out | apply below_alloc | apply qC19 | apply qD19 | refine qn19 ?_ (IsS71.ge HI0.out) | refine qn19 ?_ aH.out | refine qn19 ?_ aG.out) | exact HB.out), by repeat (first | (with_reducible first | exact HK.out | apply qE19 | apply keep_drewN | apply keep_drew | apply keep_alloc | refine qz19 ?_ aC.out _ | refine qz19 ?_ aD.out _) | exact HK.out)⟩
 ·rw [if_neg c5] at H
  have gl : decide (0 < bu) = false := decide_eq_false c5
  clear c5
  replace H := Option.bind_eq_some_iff.mp H
  obtain ⟨⟨aq, aY⟩, e5, H⟩ := H
  (try dsimp only at H)
  have A18 := qa19 e5
  clear e5
  replace H := Option.bind_eq_some_iff.mp H
  obtain ⟨⟨aE, av⟩, ff, H⟩ := H
  (try dsimp only at H)
  have A19 := qa19 ff
  clear ff
  by_cases c20 : aE = 0
  ·rw [if_pos c20] at H
   have fn : (aE == 0) = true := beq_iff_eq.mpr c20
   have fm : (aE != 0) = false := bne_eq_false_iff_eq.mpr c20
   clear c20
   obtain ⟨y310, bX⟩ : ∃ y_ : List Int, y_ = (([(-1), 9, (af.length : Int)] : List Int)) := ⟨_, rfl⟩
   replace H : ((spec_l20Rd_pick.f k s0_0 av 3).bind fun bt313 => (if 0 ≤ bt313.1 then (if bt313.1 < (y310.length : Int) then (some (ah, rd y310 bt313.1, aj, af, al, bt313.2)) else (none)) else (none))) = some (r1, r2, r3, r4, r5, r6) := by first | (rw [bX]; with_reducible exact H) | (have H2_ := (Option.bind_some _ _).symm.trans H; rw [bX]; with_reducible exact H2_) | (have H2_ := (Option.bind_some _ _).symm.trans H; with_reducible exact H2_) | with_reducible exact H | (rw [bX]; exact H) | exact H
   have bJ := qa19 bX
   clear bX
   replace H := Option.bind_eq_some_iff.mp H
   obtain ⟨⟨a8, cP⟩, e8, H⟩ := H
   (try dsimp only at H)
   have A21 := qa19 e8
   clear e8
   by_cases c22 : 0 ≤ a8
   ·rw [if_pos c22] at H
    have c22b0 : decide (0 ≤ a8) = true := decide_eq_true c22
    clear c22
    by_cases c23 : a8 < (y310.length : Int)
    ·rw [if_pos c23] at H
     have c23b0 : decide (a8 < (y310.length : Int)) = true := decide_eq_true c23
     clear c23
     simp only [Option.some.injEq, Prod.mk.injEq] at H
     obtain ⟨rfl, rfl, rfl, rfl, rfl, rfl⟩ := H
     go_enter Tryd.func19, Tryd.ntmps19
     try go_wp2_with (first | ((with_reducible refine gate_dst (N := 4) rfl ?_); refine box_event ?hg (N := 4) ?hd (cs := #[.slice none 0 0, .int .i64 0, .int .i64 0, .slice none 0 0, .int .i64 0]) (t := 26) ?hr ?_; (case hd => rfl); (case hg => rfl); (case hr => go_simp <;> rfl); intro ad hg w24 hbox hb; have n0_ := qa19 (qB19 HI0.out hb); have n1_ := qa19 (qd19 HK.out (qt19 hb g none) (.inl rfl)); have n2_ := qa19 (qF19 HB.out hb); have n3_ := qa19 (hbox); have n4_ := qa19 ((by rw [hg]; exact (keep_size (w := w) (g := g) (row := none) HK.out) : w.heap.size ≤ ad)); have n5_ := qa19 (Nat.le_trans HW0.out n4_.out); have n6_ := qa19 ((by rw [hg]; exact Nat.ne_of_lt (IsS71.lt (show IsS71 w0 _ g s0_0 s0_1 from HI0.out)) : g ≠ ad)); have n7_ := qa19 (Ne.symm n6_.out); replace HI0 := n0_; replace HK := n1_; replace HB := n2_; have ab := n3_; have aC := n4_; have aH := n5_; have ap := n6_; have am := n7_; clear n0_ n1_ n2_ n3_ n4_ n5_ n6_ n7_; clear hb hbox hg) | ((with_reducible refine gate_callee (f := 40) rfl ?_); refine goesL_ (some 8) rfl rfl Tryd.func40 (by kernel_rfl) rfl #[.pointer (some ⟨g, 0, none⟩)] rfl (by (try simp only [qh19, ql19, qp19]) <;> rfl) ?_; (with_reducible refine (spec_l20Table.calls k g s0_0 s0_1 ah ai aj af al ax w0 _ ?side1 ?side2 A3.out).mono ?_); (case side1 => exact HI0.out); (case side2 => exact HB.out); rintro e w25 ⟨b2, b4, rfl, ho0, ho1, hi, hb, hk⟩; refine ⟨_, rfl, ?_⟩; have n0_ := qa19 (qe19 hk (g' := ad) (o := .cells #[.slice none 0 0, .int .i64 0, .int .i64 0, .slice none 0 0, .int .i64 0] 26 (0, 0)) ab.out am.out (by simp)); have n1_ := qa19 (Kd.R_lower ho0 (keep_size (w := w) (g := g) (row := none) HK.out)); have n2_ := qa19 (Kd.S_lower ho1 (keep_size (w := w) (g := g) (row := none) HK.out)); have n3_ := qa19 (qd19 HK.out hk (.inl rfl)); have n4_ := qa19 (hb); have n5_ := qa19 (hi); replace ab := n0_; have ag := n1_; have ae := n2_; replace HK := n3_; replace HB := n4_; replace HI0 := n5_; clear n0_ n1_ n2_ n3_ n4_ n5_; (try clear hb hk hi); (try clear ho0); (try clear ho1)) | ((with_reducible refine gate_dst (N := 5) rfl ?_); refine box_event ?hg (N := 5) ?hd (cs := #[.slice none 0 0, .int .i64 0, .int .i64 0, .slice none 0 0, .int .i64 0]) (t := 26) ?hr ?_; (case hd => rfl); (case hg => rfl); (case hr => go_simp <;> rfl); intro ac hg w26 hbox hb; have n0_ := qa19 (Kd.R_below ag.out hb); have n1_ := qa19 (Kd.S_below ae.out hb); have n2_ := qa19 (qB19 HI0.out hb); have n3_ := qa19 (blk_below (g := ad) (o := .cells #[.slice none 0 0, .int .i64 0, .int .i64 0, .slice none 0 0, .int .i64 0] 26 (0, 0)) ab.out hb); have n4_ := qa19 (qd19 HK.out (qt19 hb g none) (.inl rfl)); have n5_ := qa19 (qF19 HB.out hb); have n6_ := qa19 (hbox); have n7_ := qa19 ((by rw [hg]; exact (keep_size (w := w) (g := g) (row := none) HK.out) : w.heap.size ≤ ac)); have n8_ := qa19 (Nat.le_trans HW0.out n7_.out); have n9_ := qa19 ((by rw [hg]; exact Nat.ne_of_lt (blk_lt (g := ad) (o := .cells #[.slice none 0 0, .int .i64 0, .int .i64 0, .slice none 0 0, .int .i64 0] 26 (0, 0)) ab.out) : ad ≠ ac)); have a9 := qa19 (Ne.symm n9_.out); have aM := qa19 ((by rw [hg]; exact Nat.ne_of_lt (IsS71.lt (show IsS71 w0 _ g s0_0 ax from HI0.out)) : g ≠ ac)); have a7 := qa19 (Ne.symm aM.out); replace ag := n0_; replace ae := n1_; replace HI0 := n2_; replace ab := n3_; replace HK := n4_; replace HB := n5_; have aa := n6_; have aD := n7_; have aG := n8_; have ak := n9_; have ar := a9; have an := aM; have ao := a7; clear n0_ n1_ n2_ n3_ n4_ n5_ n6_ n7_ n8_ n9_ a9 aM a7; clear hb hbox hg; obtain ⟨aJ, aN, gM⟩ := Kd.R_slice ag.out; subst gM; have hnb28 := ar.out; have hnc28 := ak.out; have hnb29 := ao.out; have hnc29 := an.out; have jf := bq19_ aa.out 0 rfl; have jt := bq19_ aa.out 1 rfl; have jH := bq19_ aa.out 2 rfl; have jl := bq19_ aa.out 3 rfl; have kY := bq19_ aa.out 4 rfl; have jo := qb19 aa.out 0; have hS := qb19 aa.out 1; have kN := qb19 aa.out 2; have hO := qb19 aa.out 3; have kB := qb19 aa.out 4; obtain ⟨a3, a6, fX⟩ := Kd.S_slice ae.out; subst fX) | ((with_reducible refine gate_callee (f := 34) rfl ?_); refine goesL_ (some 11) rfl rfl Tryd.func34 (by kernel_rfl) rfl #[.pointer (some ⟨g, 0, none⟩), .int .i64 a1] rfl (by (try simp only [qh19, ql19, qp19]) <;> rfl) ?_; (with_reducible refine (spec_l20Rd_pick.calls k g s0_0 ax a1 bu aX w0 _ ?side1 ?side2 A4.out).mono ?_); (case side1 => repeat (first | (with_reducible first | exact HI0.out | apply qv19 | apply qw19 | apply qu19 | apply qx19 | refine qi19 ?_ ap.out _ | refine qi19 ?_ an.out _) | exact HI0.out)); (case side2 => repeat (first | (with_reducible first | exact HB.out | apply below_alloc | apply qC19 | apply qD19 | refine qn19 ?_ (IsS71.ge HI0.out) | refine qn19 ?_ aH.out | refine qn19 ?_ aG.out) | exact HB.out)); rintro e w32 ⟨rfl, hi, hb, hk⟩; refine ⟨_, rfl, ?_⟩; have n0_ := qa19 (qe19 hk (g' := ad) (o := .cells #[.slice none 0 0, .int .i64 0, .int .i64 0, .slice none 0 0, .int .i64 0] 26 (0, 0)) (by (with_reducible repeat (first | apply qo19 | apply qm19 | apply qj19)); refine blk_far ?_ ak.out _; refine blk_far ?_ ak.out _; refine blk_far ?_ ak.out _; refine blk_far ?_ ak.out _; refine blk_far ?_ ak.out _; (with_reducible repeat (first | apply qo19 | apply qm19 | apply qj19)); exact ab.out) am.out (by simp)); have n1_ := qa19 (qk19 (qy19 (qr19 (show IsS71 w0 _ g s0_0 ax from by repeat (first | (with_reducible first | exact HI0.out | apply qv19 | apply qw19 | apply qu19 | apply qx19 | refine qi19 ?_ ap.out _ | refine qi19 ?_ an.out _) | exact HI0.out)) (by (with_reducible repeat (first | apply Kd.R_alloc | apply Kd.R_drewN | apply Kd.R_drew)); exact (qk19 (qf19 (p := ⟨ac, 4, none⟩) (qf19 (p := ⟨ac, 3, none⟩) (qf19 (p := ⟨ac, 2, none⟩) (qf19 (p := ⟨ac, 1, none⟩) (qf19 (p := ⟨ac, 0, none⟩) (Kd.R_types ag.out aa.out (by decide)) (fun _ hk => hk.2) (.slice aJ ah.length aN)) (fun _ hk => hk.2) (.int .i64 ai)) (fun _ hk => hk.2) (.int .i64 aj)) (fun _ hk => hk.2) (.slice a3 af.length a6)) (fun _ hk => hk.2) (.int .i64 al)) (fun _ h_ => h_.1))) (by decide)) hk (fun _ h => h.2)) (fun _ h => h.1)); have n2_ := qa19 (qq19 (qA19 (qs19 (show IsS71 w0 _ g s0_0 ax from by repeat (first | (with_reducible first | exact HI0.out | apply qv19 | apply qw19 | apply qu19 | apply qx19 | refine qi19 ?_ ap.out _ | refine qi19 ?_ an.out _) | exact HI0.out)) (by (with_reducible repeat (first | apply Kd.S_alloc | apply Kd.S_drewN | apply Kd.S_drew)); exact (qq19 (qg19 (p := ⟨ac, 4, none⟩) (qg19 (p := ⟨ac, 3, none⟩) (qg19 (p := ⟨ac, 2, none⟩) (qg19 (p := ⟨ac, 1, none⟩) (qg19 (p := ⟨ac, 0, none⟩) (Kd.S_types ae.out aa.out (by decide)) (fun _ hk => hk.2) (.slice aJ ah.length aN)) (fun _ hk => hk.2) (.int .i64 ai)) (fun _ hk => hk.2) (.int .i64 aj)) (fun _ hk => hk.2) (.slice a3 af.length a6)) (fun _ hk => hk.2) (.int .i64 al)) (fun _ h_ => h_.1))) (by decide)) hk (fun _ h => h.2)) (fun _ h => h.1)); have n3_ := qa19 (qe19 hk (g' := ac) (o := .cells #[.slice aJ ah.length aN, .int .i64 ai, .int .i64 aj, .slice a3 af.length a6, .int .i64 al] 26 (0, 0)) (by (with_reducible repeat (first | apply qo19 | apply qm19 | apply qj19)); refine blk_put (cs := #[.slice aJ ah.length aN, .int .i64 ai, .int .i64 aj, .slice a3 af.length a6, .int .i64 0]) ?_ 4 _ rfl; refine blk_put (cs := #[.slice aJ ah.length aN, .int .i64 ai, .int .i64 aj, .slice none 0 0, .int .i64 0]) ?_ 3 _ rfl; refine blk_put (cs := #[.slice aJ ah.length aN, .int .i64 ai, .int .i64 0, .slice none 0 0, .int .i64 0]) ?_ 2 _ rfl; refine blk_put (cs := #[.slice aJ ah.length aN, .int .i64 0, .int .i64 0, .slice none 0 0, .int .i64 0]) ?_ 1 _ rfl; refine blk_put (cs := #[.slice none 0 0, .int .i64 0, .int .i64 0, .slice none 0 0, .int .i64 0]) ?_ 0 _ rfl; (with_reducible repeat (first | apply qo19 | apply qm19 | apply qj19)); exact aa.out) ao.out (by simp)); have n4_ := qa19 (qd19 (by repeat (first | (with_reducible first | exact HK.out | apply qE19 | apply keep_drewN | apply keep_drew | apply keep_alloc | refine qz19 ?_ aC.out _ | refine qz19 ?_ aD.out _) | exact HK.out)) hk (.inl rfl)); have n5_ := qa19 (hb); have n6_ := qa19 (hi); replace ab := n0_; replace ag := n1_; replace ae := n2_; replace aa := n3_; replace HK := n4_; replace HB := n5_; replace HI0 := n6_; clear n0_ n1_ n2_ n3_ n4_ n5_ n6_; (try clear hb hk hi); have jO := bq19_ aa.out 0 rfl; have ll := bq19_ aa.out 1 rfl; have kP := bq19_ aa.out 2 rfl; have kb := bq19_ aa.out 3 rfl; have la := bq19_ aa.out 4 rfl; have kD := qb19 aa.out 0; have kz := qb19 aa.out 1; have kH := qb19 aa.out 2; have ld := qb19 aa.out 3; have kQ := qb19 aa.out 4) | ((with_reducible refine gate_callee (f := 34) rfl ?_); refine goesL_ (some 18) rfl rfl Tryd.func34 (by kernel_rfl) rfl #[.pointer (some ⟨g, 0, none⟩), .int .i64 (af.length : Int)] rfl (by (try simp only [qh19, ql19, qp19]) <;> rfl) ?_; (with_reducible refine (spec_l20Rd_pick.calls k g s0_0 aX (af.length : Int) aq aY w0 _ ?side1 ?side2 A18.out).mono ?_); (case side1 => exact HI0.out); (case side2 => exact HB.out); rintro e w34 ⟨rfl, hi, hb, hk⟩; refine ⟨_, rfl, ?_⟩; have n0_ := qa19 (qe19 hk (g' := ad) (o := .cells #[.slice none 0 0, .int .i64 0, .int .i64 0, .slice none 0 0, .int .i64 0] 26 (0, 0)) ab.out am.out (by simp)); have n1_ := qa19 (qk19 (qy19 (qr19 (show IsS71 w0 _ g s0_0 aX from HI0.out) ag.out (by decide)) hk (fun _ h => h.2)) (fun _ h => h.1)); have n2_ := qa19 (qq19 (qA19 (qs19 (show IsS71 w0 _ g s0_0 aX from HI0.out) ae.out (by decide)) hk (fun _ h => h.2)) (fun _ h => h.1)); have n3_ := qa19 (qe19 hk (g' := ac) (o := .cells #[.slice aJ ah.length aN, .int .i64 ai, .int .i64 aj, .slice a3 af.length a6, .int .i64 al] 26 (0, 0)) aa.out ao.out (by simp)); have n4_ := qa19 (qd19 HK.out hk (.inl rfl)); have n5_ := qa19 (hb); have n6_ := qa19 (hi); replace ab := n0_; replace ag := n1_; replace ae := n2_; replace aa := n3_; replace HK := n4_; replace HB := n5_; replace HI0 := n6_; clear n0_ n1_ n2_ n3_ n4_ n5_ n6_; (try clear hb hk hi)) | ((with_reducible refine gate_callee (f := 34) rfl ?_); refine goesL_ (some 20) rfl rfl Tryd.func34 (by kernel_rfl) rfl #[.pointer (some ⟨g, 0, none⟩), .int .i64 6] rfl (by (try simp only [qh19, ql19, qp19]) <;> rfl) ?_; (with_reducible refine (spec_l20Rd_pick.calls k g s0_0 aY 6 aE av w0 _ ?side1 ?side2 A19.out).mono ?_); (case side1 => exact HI0.out); (case side2 => exact HB.out); rintro e w35 ⟨rfl, hi, hb, hk⟩; refine ⟨_, rfl, ?_⟩; have n0_ := qa19 (qe19 hk (g' := ad) (o := .cells #[.slice none 0 0, .int .i64 0, .int .i64 0, .slice none 0 0, .int .i64 0] 26 (0, 0)) ab.out am.out (by simp)); have n1_ := qa19 (qk19 (qy19 (qr19 (show IsS71 w0 _ g s0_0 aY from HI0.out) ag.out (by decide)) hk (fun _ h => h.2)) (fun _ h => h.1)); have n2_ := qa19 (qq19 (qA19 (qs19 (show IsS71 w0 _ g s0_0 aY from HI0.out) ae.out (by decide)) hk (fun _ h => h.2)) (fun _ h => h.1)); have n3_ := qa19 (qe19 hk (g' := ac) (o := .cells #[.slice aJ ah.length aN, .int .i64 ai, .int .i64 aj, .slice a3 af.length a6, .int .i64 al] 26 (0, 0)) aa.out ao.out (by simp)); have n4_ := qa19 (qd19 HK.out hk (.inl rfl)); have n5_ := qa19 (hb); have n6_ := qa19 (hi); replace ab := n0_; replace ag := n1_; replace ae := n2_; replace aa := n3_; replace HK := n4_; replace HB := n5_; replace HI0 := n6_; clear n0_ n1_ n2_ n3_ n4_ n5_ n6_; (try clear hb hk hi)))
     have pi315 : (0 ≤ (a8 : Int)) = True := eq_true (of_decide_eq_true (by first | (with_reducible assumption) | assumption))
     have qi315 : (a8 < (y310.length : Int)) = True := eq_true (of_decide_eq_true (by first | (with_reducible assumption) | assumption))
     have n0_ := qa19 (Kd.R_drew ag.out)
     have n1_ := qa19 (Kd.S_drew ae.out)
     have n2_ := qa19 (qm19 ab.out)
     have n3_ := qa19 (qm19 aa.out)
     have n4_ := qa19 (qu19 HI0.out)
     have n5_ := qa19 (keep_drew HK.out)
     have n6_ := qa19 (qD19 HB.out)
     replace ag := n0_
     replace ae := n1_
     replace ab := n2_
     replace aa := n3_
     replace HI0 := n4_
     replace HK := n5_
     replace HB := n6_
     clear n0_ n1_ n2_ n3_ n4_ n5_ n6_
     refine start_ (n := 10) (S := fun w' => w'.cell? ⟨ac, 0, none⟩ = some (.slice aJ ah.length aN) ∧ w'.cell? ⟨ac, 1, none⟩ = some (.int .i64 ai) ∧ w'.cell? ⟨ac, 2, none⟩ = some (.int .i64 aj) ∧ w'.cell? ⟨ac, 3, none⟩ = some (.slice a3 af.length a6) ∧ w'.cell? ⟨ac, 4, none⟩ = some (.int .i64 al)) (ds := [9]) m19_0 (by kernel_rfl) rfl rfl ⟨(qc19 aa.out 0).trans rfl, (qc19 aa.out 1).trans rfl, (qc19 aa.out 2).trans rfl, (qc19 aa.out 3).trans rfl, (qc19 aa.out 4).trans rfl⟩ (fun hHeld => ?_); refine with_tabW spec_l20AnyTable.tab9 spec_l20AnyTable.bits9 (fun HT_ HW_ => ?_)
     generalize w35.drew = w36 at ag ae ab aa HI0 HK HB hHeld ⊢
     refine pure_ (i := 0) (N := some 33) (v := ?_) (a' := ?_) m19_1 rfl rfl (any_of HT_.out (by kernel_rfl)) (fun _ _ _ h => h) (Or.inl ⟨by rfl, ?_⟩) ?_ ?_
     rotate_left
     ·intro w'
      go_simp
      with_reducible rfl
     rotate_left
     ·simp only [Act.put, qa_, qb_, qc_, i64_w, i32_w]
      rfl
     refine pure_ (i := 4) (N := some 37) (v := ?_) (a' := ?_) m19_2 rfl rfl (any_of HT_.out (by kernel_rfl)) (fun _ _ _ h => h) (Or.inl ⟨by rfl, ?_⟩) ?_ ?_
     rotate_left
     ·intro w'
      go_simp
      with_reducible rfl
     rotate_left
     ·simp only [Act.put, qa_, qb_, qc_, i64_w, i32_w]
      rfl
     refine take_ (i := 1) (N := some 34) (v := ?_) (a' := ?_) m19_3 rfl rfl (take_ofW HT_.out HW_.out (by kernel_rfl)) (fun _ _ _ h => h) (Or.inl ⟨by rfl, ?_⟩) hHeld ?_ ?_
     rotate_left
     ·rintro w' ⟨s0, s1, s2, s3, s4⟩
      go_simp
      with_reducible rfl
     rotate_left
     ·simp only [Act.put, qa_, qb_, qc_, i64_w, i32_w]
      rfl
     refine pure_ (i := 2) (N := some 35) (v := ?_) (a' := ?_) m19_4 rfl rfl (any_of HT_.out (by kernel_rfl)) (fun _ _ _ h => h) (Or.inl ⟨by rfl, ?_⟩) ?_ ?_
     rotate_left
     ·intro w'
      go_simp
      with_reducible rfl
     rotate_left
     ·simp only [Act.put, qa_, qb_, qc_, i64_w, i32_w]
      rfl
     refine join_ (σ := Value × Addr) 4 m19_5 (fun s_ => [(36, s_.1), (38, .int .i64 a8)]) (fun s_ w' => (w'.cell? ⟨ac, 0, none⟩ = some (.slice aJ ah.length aN) ∧ w'.cell? ⟨ac, 1, none⟩ = some (.int .i64 ai) ∧ w'.cell? ⟨ac, 2, none⟩ = some (.int .i64 aj) ∧ w'.cell? ⟨ac, 3, none⟩ = some (.slice a3 af.length a6) ∧ w'.cell? ⟨ac, 4, none⟩ = some (.int .i64 al)) ∧ (Kd.R k29 29 w' w.heap.size (fun _ => True) (.slice aJ ah.length aN) ah) ∧ (Kd.S k32 32 w' w.heap.size (fun _ => True) (.slice a3 af.length a6) af) ∧ (Kd.R (Kd.int .i64) 3 w' w.heap.size (fun _ => True) s_.1 y310) ∧ (∃ c_, (s_.1 : Value) = .slice (some s_.2) y310.length c_) ∧ (w'.heap[ad]? = some (.cells #[.slice none 0 0, .int .i64 0, .int .i64 0, .slice none 0 0, .int .i64 0] 26 (0, 0))) ∧ (w'.heap[ac]? = some (.cells #[.slice aJ ah.length aN, .int .i64 ai, .int .i64 aj, .slice a3 af.length a6, .int .i64 al] 26 (0, 0))) ∧ (IsS71 w0 w' g s0_0 cP) ∧ (KeepBut w w' g none) ∧ (Below w0.heap.size w0 w')) ?_ ?_
     rotate_left
     ·intro hCont
      refine two_ (i := 3) (j := 5) (Ni := some 36) (Nj := some 38) m19_6 m19_7 rfl rfl rfl rfl (two_of HT_.out (by kernel_rfl)) (by decide) (by decide) (fun K hK => ?_) (fun K hK => ?_)
      ·skip
       refine Kd.R_lit_step (Kd.int .i64) _ 3 ?hg (N := 36) ?hd (xs := ([(-1), 9, (af.length : Int)] : List Int)) (inner := [.int .i64 (-1), .int .i64 9, .int .i64 (af.length : Int)]) (ok := fun _ => True) (okp := fun _ => True) ?hr ?hp (fun _ hk => hk) trivial (Below.refl _ _) (Nat.le_refl _) (by simp) ?_; (case hd => rfl); (case hg => rfl); (case hr => go_simp <;> rfl); (case hp => exact (Reps.one (show Kd.M (Kd.int .i64) _ _ _ (-1) [.int .i64 (-1)] from rfl) (Reps.one (show Kd.M (Kd.int .i64) _ _ _ 9 [.int .i64 9] from rfl) (Reps.one (show Kd.M (Kd.int .i64) _ _ _ (af.length : Int) [.int .i64 (af.length : Int)] from rfl) (Reps.none _ _)))))
       intro cN w37 cy hb hg_ hnew_
       clear hg_ hnew_
       (first | rw [← bJ.out] at cy | (simp only [Int.reduceToNat] at cy; rw [← bJ.out] at cy))
       have n0_ := qa19 (Kd.R_below ag.out hb)
       have n1_ := qa19 (Kd.S_below ae.out hb)
       have n2_ := qa19 (Kd.R_lower cy (keep_size (w := w) (g := g) (row := none) HK.out))
       have n3_ := qa19 (qB19 HI0.out hb)
       have n4_ := qa19 (blk_below (g := ad) (o := .cells #[.slice none 0 0, .int .i64 0, .int .i64 0, .slice none 0 0, .int .i64 0] 26 (0, 0)) ab.out hb)
       have n5_ := qa19 (blk_below (g := ac) (o := .cells #[.slice aJ ah.length aN, .int .i64 ai, .int .i64 aj, .slice a3 af.length a6, .int .i64 al] 26 (0, 0)) aa.out hb)
       have n6_ := qa19 (qd19 HK.out (qt19 hb g none) (.inl rfl))
       have n7_ := qa19 (qF19 HB.out hb)
       replace ag := n0_
       replace ae := n1_
       have bf := n2_
       replace HI0 := n3_
       replace ab := n4_
       replace aa := n5_
       replace HK := n6_
       replace HB := n7_
       clear n0_ n1_ n2_ n3_ n4_ n5_ n6_ n7_
       clear hb cy
       obtain ⟨Ao39, gD, fU⟩ := Kd.R_slice bf.out
       subst fU
       obtain ⟨eI, gX, _⟩ := Kd.at_int (Kd.R_reads' bf.out).2.2 0 (by decide) (by rw [bJ.out]; simp)
       cases gX
       refine hK.out _ _ ⟨(qc19 aa.out 0).trans rfl, (qc19 aa.out 1).trans rfl, (qc19 aa.out 2).trans rfl, (qc19 aa.out 3).trans rfl, (qc19 aa.out 4).trans rfl⟩ (fun hHeld => ?_)
       clear hK K
       refine norm_ (a' := ?_) ?_ ?_
       rotate_left
       ·show Act.put _ (some 36) _ = _
        simp only [Act.put, qa_, qb_, qc_, i64_w, i32_w]
        rfl
       refine one_ (i := 5) (N := some 38) m19_5 rfl rfl (one_of HT_.out (by kernel_rfl)) (by decide) (fun K hK => ?_)
       refine goes_ Tryd.func34 (by kernel_rfl) rfl #[.pointer (some ⟨g, 0, none⟩), .int .i64 3] (by rfl) rfl rfl (by (try simp only [qh19, ql19, qp19]); first | done | rfl | (simp only [List.length_drop, List.length_take]; rfl)) ?_
       with_reducible refine (spec_l20Rd_pick.calls k g s0_0 av 3 a8 cP w0 _ ?side1 ?side2 A21.out).mono ?_
       (case side1 => exact HI0.out)
       (case side2 => exact HB.out)
       rintro e w40 ⟨rfl, hi, hb, hk⟩
       refine ⟨_, rfl, ?_⟩
       have n0_ := qa19 (qe19 hk (g' := ad) (o := .cells #[.slice none 0 0, .int .i64 0, .int .i64 0, .slice none 0 0, .int .i64 0] 26 (0, 0)) ab.out am.out (by simp))
       have n1_ := qa19 (qk19 (qy19 (qr19 (show IsS71 w0 _ g s0_0 av from HI0.out) ag.out (by decide)) hk (fun _ h => h.2)) (fun _ h => h.1))
       have n2_ := qa19 (qq19 (qA19 (qs19 (show IsS71 w0 _ g s0_0 av from HI0.out) ae.out (by decide)) hk (fun _ h => h.2)) (fun _ h => h.1))
       have n3_ := qa19 (qe19 hk (g' := ac) (o := .cells #[.slice aJ ah.length aN, .int .i64 ai, .int .i64 aj, .slice a3 af.length a6, .int .i64 al] 26 (0, 0)) aa.out ao.out (by simp))
       have n4_ := qa19 (qk19 (qy19 (qr19 (show IsS71 w0 _ g s0_0 av from HI0.out) bf.out (by decide)) hk (fun _ h => h.2)) (fun _ h => h.1))
       have n5_ := qa19 (qd19 HK.out hk (.inl rfl))
       have n6_ := qa19 (hb)
       have n7_ := qa19 (hi)
       replace ab := n0_
       replace ag := n1_
       replace ae := n2_
       replace aa := n3_
       replace bf := n4_
       replace HK := n5_
       replace HB := n6_
       replace HI0 := n7_
       clear n0_ n1_ n2_ n3_ n4_ n5_ n6_ n7_
       (try clear hb)
       (try clear hb2)
       (try clear hk)
       (try clear hi)
       refine hK.out _ _ ⟨(qc19 aa.out 0).trans rfl, (qc19 aa.out 1).trans rfl, (qc19 aa.out 2).trans rfl, (qc19 aa.out 3).trans rfl, (qc19 aa.out 4).trans rfl⟩ (fun hHeld => ?_)
       clear hK K
       refine norm_ (a' := ?_) ?_ ?_
       rotate_left
       ·show Act.put _ (some 38) _ = _
        simp only [Act.put, qa_, qb_, qc_, i64_w, i32_w]
        rfl
       exact norm_ (by simp only [putAll, Act.put, qa_, qb_, qc_]) (hCont (.slice (some eI) y310.length gD, eI) _ ⟨hHeld, ag.out, ae.out, bf.out, ⟨_, rfl⟩, ab.out, aa.out, HI0.out, HK.out, HB.out⟩)
      ·skip
       refine goes_ Tryd.func34 (by kernel_rfl) rfl #[.pointer (some ⟨g, 0, none⟩), .int .i64 3] (by rfl) rfl rfl (by (try simp only [qh19, ql19, qp19]); first | done | rfl | (simp only [List.length_drop, List.length_take]; rfl)) ?_
       with_reducible refine (spec_l20Rd_pick.calls k g s0_0 av 3 a8 cP w0 _ ?side1 ?side2 A21.out).mono ?_
       (case side1 => exact HI0.out)
       (case side2 => exact HB.out)
       rintro e w37 ⟨rfl, hi, hb, hk⟩
       refine ⟨_, rfl, ?_⟩
       have n0_ := qa19 (qe19 hk (g' := ad) (o := .cells #[.slice none 0 0, .int .i64 0, .int .i64 0, .slice none 0 0, .int .i64 0] 26 (0, 0)) ab.out am.out (by simp))
       have n1_ := qa19 (qk19 (qy19 (qr19 (show IsS71 w0 _ g s0_0 av from HI0.out) ag.out (by decide)) hk (fun _ h => h.2)) (fun _ h => h.1))
       have n2_ := qa19 (qq19 (qA19 (qs19 (show IsS71 w0 _ g s0_0 av from HI0.out) ae.out (by decide)) hk (fun _ h => h.2)) (fun _ h => h.1))
       have n3_ := qa19 (qe19 hk (g' := ac) (o := .cells #[.slice aJ ah.length aN, .int .i64 ai, .int .i64 aj, .slice a3 af.length a6, .int .i64 al] 26 (0, 0)) aa.out ao.out (by simp))
       have n4_ := qa19 (qd19 HK.out hk (.inl rfl))
       have n5_ := qa19 (hb)
       have n6_ := qa19 (hi)
       replace ab := n0_
       replace ag := n1_
       replace ae := n2_
       replace aa := n3_
       replace HK := n4_
       replace HB := n5_
       replace HI0 := n6_
       clear n0_ n1_ n2_ n3_ n4_ n5_ n6_
       (try clear hb)
       (try clear hb2)
       (try clear hk)
       (try clear hi)
       refine hK.out _ _ ⟨(qc19 aa.out 0).trans rfl, (qc19 aa.out 1).trans rfl, (qc19 aa.out 2).trans rfl, (qc19 aa.out 3).trans rfl, (qc19 aa.out 4).trans rfl⟩ (fun hHeld => ?_)
       clear hK K
       refine norm_ (a' := ?_) ?_ ?_
       rotate_left
       ·show Act.put _ (some 38) _ = _
        simp only [Act.put, qa_, qb_, qc_, i64_w, i32_w]
        rfl
       refine one_ (i := 3) (N := some 36) m19_5 rfl rfl (one_of HT_.out (by kernel_rfl)) (by decide) (fun K hK => ?_)
       refine Kd.R_lit_step (Kd.int .i64) _ 3 ?hg (N := 36) ?hd (xs := ([(-1), 9, (af.length : Int)] : List Int)) (inner := [.int .i64 (-1), .int .i64 9, .int .i64 (af.length : Int)]) (ok := fun _ => True) (okp := fun _ => True) ?hr ?hp (fun _ hk => hk) trivial (Below.refl _ _) (Nat.le_refl _) (by simp) ?_; (case hd => rfl); (case hg => rfl); (case hr => go_simp <;> rfl); (case hp => exact (Reps.one (show Kd.M (Kd.int .i64) _ _ _ (-1) [.int .i64 (-1)] from rfl) (Reps.one (show Kd.M (Kd.int .i64) _ _ _ 9 [.int .i64 9] from rfl) (Reps.one (show Kd.M (Kd.int .i64) _ _ _ (af.length : Int) [.int .i64 (af.length : Int)] from rfl) (Reps.none _ _)))))
       intro cN w38 ct hb hg_ hnew_
       clear hg_ hnew_
       (first | rw [← bJ.out] at ct | (simp only [Int.reduceToNat] at ct; rw [← bJ.out] at ct))
       have n0_ := qa19 (Kd.R_below ag.out hb)
       have n1_ := qa19 (Kd.S_below ae.out hb)
       have n2_ := qa19 (Kd.R_lower ct (keep_size (w := w) (g := g) (row := none) HK.out))
       have n3_ := qa19 (qB19 HI0.out hb)
       have n4_ := qa19 (blk_below (g := ad) (o := .cells #[.slice none 0 0, .int .i64 0, .int .i64 0, .slice none 0 0, .int .i64 0] 26 (0, 0)) ab.out hb)
       have n5_ := qa19 (blk_below (g := ac) (o := .cells #[.slice aJ ah.length aN, .int .i64 ai, .int .i64 aj, .slice a3 af.length a6, .int .i64 al] 26 (0, 0)) aa.out hb)
       have n6_ := qa19 (qd19 HK.out (qt19 hb g none) (.inl rfl))
       have n7_ := qa19 (qF19 HB.out hb)
       replace ag := n0_
       replace ae := n1_
       have bf := n2_
       replace HI0 := n3_
       replace ab := n4_
       replace aa := n5_
       replace HK := n6_
       replace HB := n7_
       clear n0_ n1_ n2_ n3_ n4_ n5_ n6_ n7_
       clear hb ct
       obtain ⟨Ao40, hD, gH⟩ := Kd.R_slice bf.out
       subst gH
       obtain ⟨eD, hF, _⟩ := Kd.at_int (Kd.R_reads' bf.out).2.2 0 (by decide) (by rw [bJ.out]; simp)
       cases hF
       refine hK.out _ _ ⟨(qc19 aa.out 0).trans rfl, (qc19 aa.out 1).trans rfl, (qc19 aa.out 2).trans rfl, (qc19 aa.out 3).trans rfl, (qc19 aa.out 4).trans rfl⟩ (fun hHeld => ?_)
       clear hK K
       refine norm_ (a' := ?_) ?_ ?_
       rotate_left
       ·show Act.put _ (some 36) _ = _
        simp only [Act.put, qa_, qb_, qc_, i64_w, i32_w]
        rfl
       exact norm_ (by simp only [putAll, Act.put, qa_, qb_, qc_]) (hCont (.slice (some eD) y310.length hD, eD) _ ⟨hHeld, ag.out, ae.out, bf.out, ⟨_, rfl⟩, ab.out, aa.out, HI0.out, HK.out, HB.out⟩)
     rintro ⟨cN, cw⟩ w41 ⟨hS_, h0_, h1_, h2_, h3_, h4_, h5_, h6_, h7_, h8_⟩
     have n0_ : Aside0 (Kd.R k29 29 w41 w.heap.size (fun _ => True) (.slice aJ ah.length aN) ah) := ⟨h0_⟩
     have n1_ : Aside0 (Kd.S k32 32 w41 w.heap.size (fun _ => True) (.slice a3 af.length a6) af) := ⟨h1_⟩
     have n2_ : Aside0 (Kd.R (Kd.int .i64) 3 w41 w.heap.size (fun _ => True) cN y310) := ⟨h2_⟩
     have n3_ : Aside0 (∃ c_, (cN : Value) = .slice (some cw) y310.length c_) := ⟨h3_⟩
     have n4_ : Aside0 (w41.heap[ad]? = some (.cells #[.slice none 0 0, .int .i64 0, .int .i64 0, .slice none 0 0, .int .i64 0] 26 (0, 0))) := ⟨h4_⟩
     have n5_ : Aside0 (w41.heap[ac]? = some (.cells #[.slice aJ ah.length aN, .int .i64 ai, .int .i64 aj, .slice a3 af.length a6, .int .i64 al] 26 (0, 0))) := ⟨h5_⟩
     have n6_ : Aside0 (IsS71 w0 w41 g s0_0 cP) := ⟨h6_⟩
     have n7_ : Aside0 (KeepBut w w41 g none) := ⟨h7_⟩
     have n8_ : Aside0 (Below w0.heap.size w0 w41) := ⟨h8_⟩
     clear h0_ h1_ h2_ h3_ h4_ h5_ h6_ h7_ h8_
     replace ag := n0_
     replace ae := n1_
     have bf := n2_
     have cc := n3_
     replace ab := n4_
     replace aa := n5_
     replace HI0 := n6_
     replace HK := n7_
     replace HB := n8_
     clear n0_ n1_ n2_ n3_ n4_ n5_ n6_ n7_ n8_
     have hHeld : w41.cell? ⟨ac, 0, none⟩ = some (.slice aJ ah.length aN) ∧ w41.cell? ⟨ac, 1, none⟩ = some (.int .i64 ai) ∧ w41.cell? ⟨ac, 2, none⟩ = some (.int .i64 aj) ∧ w41.cell? ⟨ac, 3, none⟩ = some (.slice a3 af.length a6) ∧ w41.cell? ⟨ac, 4, none⟩ = some (.int .i64 al) := hS_
     obtain ⟨co42, gw⟩ := cc.out
     clear cc
     subst gw
     refine norm_ (a' := ?_) ?_ ?_
     rotate_left
     ·simp only [putAll, Act.put, qa_, qb_, qc_]
      rfl
     refine pure_ (i := 6) (N := some 39) (v := ?_) (a' := ?_) m19_8 rfl rfl (any_of HT_.out (by kernel_rfl)) (fun _ _ _ h => h) (Or.inl ⟨by rfl, ?_⟩) ?_ ?_
     rotate_left
     ·intro w'
      go_simp
      with_reducible rfl
     rotate_left
     ·simp only [Act.put, qa_, qb_, qc_, i64_w, i32_w]
      rfl
     refine one_ (i := 7) (N := some 40) m19_9 rfl rfl (one_of HT_.out (by kernel_rfl)) (by decide) (fun K hK => ?_)
     (have gL : 0 ≤ (a8 : Int) := of_decide_eq_true (by first | (with_reducible assumption) | assumption); have hv : a8 < (y310.length : Int) := of_decide_eq_true (by first | (with_reducible assumption) | assumption); obtain ⟨fR, hs, eW⟩ := Kd.at_int (Kd.R_reads' bf.out).2.2 a8 gL hv; obtain rfl : cw = fR := (by injection hs))
     refine value_ (w1 := ?_) (v := ?_) (by rfl) rfl ?_ ?_
     rotate_left 2
     ·go_simp
      constructor
      ·rfl
      ·rfl
     clear eW
     refine hK.out _ _ ⟨(qc19 aa.out 0).trans rfl, (qc19 aa.out 1).trans rfl, (qc19 aa.out 2).trans rfl, (qc19 aa.out 3).trans rfl, (qc19 aa.out 4).trans rfl⟩ (fun hHeld => ?_)
     clear hK K
     refine norm_ (a' := ?_) ?_ ?_
     rotate_left
     ·show Act.put _ (some 40) _ = _
      simp only [Act.put, qa_, qb_, qc_, i64_w, i32_w]
      rfl
     refine pure_ (i := 8) (N := some 41) (v := ?_) (a' := ?_) m19_10 rfl rfl (any_of HT_.out (by kernel_rfl)) (fun _ _ _ h => h) (Or.inl ⟨by rfl, ?_⟩) ?_ ?_
     rotate_left
     ·intro w'
      go_simp
      with_reducible rfl
     rotate_left
     ·simp only [Act.put, qa_, qb_, qc_, i64_w, i32_w]
      rfl
     refine last_ (i := 9) (N := none) m19_11 rfl rfl (one_of HT_.out (by kernel_rfl)) (by decide) (fun K hK => ?_)
     have hs43 := bq19_ aa.out 1 rfl
     have hfs43 := qb19 aa.out 1
     have kt := ak.out
     have k5 := ar.out
     refine skip_ (w1 := ?_) (by rfl) rfl ?_ ?_
     rotate_left
     ·go_simp
      rfl
     refine hK.out _ _ ?_
     clear hK K
     refine done_ (done_of HT_.out (by kernel_rfl)) ?_
     have jy := bq19_ aa.out 0 rfl
     have lc := bq19_ aa.out 1 rfl
     have jG := bq19_ aa.out 2 rfl
     have kU := bq19_ aa.out 3 rfl
     have kE := bq19_ aa.out 4 rfl
     have jd := qb19 aa.out 0
     have kO := qb19 aa.out 1
     have jU := qb19 aa.out 2
     have kA := qb19 aa.out 3
     have ka := qb19 aa.out 4
     have hnb45 := am.out
     have hnc45 := ap.out
     have k3 := bq19_ ab.out 0 rfl
     have jg := bq19_ ab.out 1 rfl
     have hU := bq19_ ab.out 2 rfl
     have j1 := bq19_ ab.out 3 rfl
     have kX := bq19_ ab.out 4 rfl
     have jZ := qb19 ab.out 0
     have ke := qb19 ab.out 1
     have k6 := qb19 ab.out 2
     have jj := qb19 ab.out 3
     have jc := qb19 ab.out 4
     try go_wp2
     refine bodyPost_ret (results_cell_row rfl _ _ ad 26 #[.slice aJ ah.length aN, .int .i64 (rd y310 a8), .int .i64 aj, .slice a3 af.length a6, .int .i64 al] (0, 0) _ rfl (by (with_reducible repeat (first | apply qo19 | apply qm19 | apply qj19)); refine blk_put (cs := #[.slice aJ ah.length aN, .int .i64 (rd y310 a8), .int .i64 aj, .slice a3 af.length a6, .int .i64 0]) ?_ 4 _ rfl; refine blk_put (cs := #[.slice aJ ah.length aN, .int .i64 (rd y310 a8), .int .i64 aj, .slice none 0 0, .int .i64 0]) ?_ 3 _ rfl; refine blk_put (cs := #[.slice aJ ah.length aN, .int .i64 (rd y310 a8), .int .i64 0, .slice none 0 0, .int .i64 0]) ?_ 2 _ rfl; refine blk_put (cs := #[.slice aJ ah.length aN, .int .i64 0, .int .i64 0, .slice none 0 0, .int .i64 0]) ?_ 1 _ rfl; refine blk_put (cs := #[.slice none 0 0, .int .i64 0, .int .i64 0, .slice none 0 0, .int .i64 0]) ?_ 0 _ rfl; refine blk_far ?_ ak.out _; (with_reducible repeat (first | apply qo19 | apply qm19 | apply qj19)); exact ab.out) Tryd.underlying26 rfl (by kernel_rfl)) rfl ?_
     exact ⟨_, _, by first | rfl | (simp [errW_none, errW_some] <;> rfl) | (simp [*, errW_none, errW_some] <;> rfl), by (with_reducible repeat (first | apply Kd.R_alloc | apply Kd.R_drewN | apply Kd.R_drew)); exact qk19 (qf19 (p := ⟨ad, 4, none⟩) (qf19 (p := ⟨ad, 3, none⟩) (qf19 (p := ⟨ad, 2, none⟩) (qf19 (p := ⟨ad, 1, none⟩) (qf19 (p := ⟨ad, 0, none⟩) (qf19 (p := ⟨ac, 1, none⟩) (Kd.R_types (Kd.R_types ag.out aa.out (by decide)) ab.out (by decide)) (fun _ hk => hk.1.2) (.int .i64 (rd y310 a8))) (fun _ hk => hk.2) (.slice aJ ah.length aN)) (fun _ hk => hk.2) (.int .i64 (rd y310 a8))) (fun _ hk => hk.2) (.int .i64 aj)) (fun _ hk => hk.2) (.slice a3 af.length a6)) (fun _ hk => hk.2) (.int .i64 al)) (fun _ hk => trivial), by (with_reducible repeat (first | apply Kd.S_alloc | apply Kd.S_drewN | apply Kd.S_drew)); exact qq19 (qg19 (p := ⟨ad, 4, none⟩) (qg19 (p := ⟨ad, 3, none⟩) (qg19 (p := ⟨ad, 2, none⟩) (qg19 (p := ⟨ad, 1, none⟩) (qg19 (p := ⟨ad, 0, none⟩) (qg19 (p := ⟨ac, 1, none⟩) (Kd.S_types (Kd.S_types ae.out aa.out (by decide)) ab.out (by decide)) (fun _ hk => hk.1.2) (.int .i64 (rd y310 a8))) (fun _ hk => hk.2) (.slice aJ ah.length aN)) (fun _ hk => hk.2) (.int .i64 (rd y310 a8))) (fun _ hk => hk.2) (.int .i64 aj)) (fun _ hk => hk.2) (.slice a3 af.length a6)) (fun _ hk => hk.2) (.int .i64 al)) (fun _ hk => trivial), by repeat (first | (with_reducible first | exact HI0.out | apply qv19 | apply qw19 | apply qu19 | apply qx19 | refine qi19 ?_ ap.out _ | refine qi19 ?_ an.out _) | exact HI0.out), by repeat (first | (with_reducible first | exact HB.out | apply below_alloc | apply qC19 | apply qD19 | refine qn19 ?_ (IsS71.ge HI0.out) | refine qn19 ?_ aH.out | refine qn19 ?_ aG.out) | exact HB.out), by repeat (first | (with_reducible first | exact HK.out | apply qE19 | apply keep_drewN | apply keep_drew | apply keep_alloc | refine qz19 ?_ aC.out _ | refine qz19 ?_ aD.out _) | exact HK.out)⟩
    ·rw [if_neg c23] at H
     exact absurd H (by simp)
   ·rw [if_neg c22] at H
    exact absurd H (by simp)
  ·rw [if_neg c20] at H
   have fn : (aE == 0) = false := beq_eq_false_iff_ne.mpr c20
   have fm : (aE != 0) = true := bne_iff_ne.mpr c20
   by_cases c47 : aE = 1
   ·rw [if_pos c47] at H
    have fr : (aE == 1) = true := beq_iff_eq.mpr c47
    have fD : (aE != 1) = false := bne_eq_false_iff_eq.mpr c47
    clear c47
    obtain ⟨y316, bY⟩ : ∃ y_ : List Int, y_ = (([(-1), 9, (af.length : Int)] : List Int)) := ⟨_, rfl⟩
    replace H : ((spec_l20Rd_pick.f k s0_0 av 3).bind fun bt319 => (if 0 ≤ bt319.1 then (if bt319.1 < (y316.length : Int) then (some (ah, ai, rd y316 bt319.1, af, al, bt319.2)) else (none)) else (none))) = some (r1, r2, r3, r4, r5, r6) := by first | (rw [bY]; with_reducible exact H) | (have H2_ := (Option.bind_some _ _).symm.trans H; rw [bY]; with_reducible exact H2_) | (have H2_ := (Option.bind_some _ _).symm.trans H; with_reducible exact H2_) | with_reducible exact H | (rw [bY]; exact H) | exact H
    have bF := qa19 bY
    clear bY
    replace H := Option.bind_eq_some_iff.mp H
    obtain ⟨⟨ba, cM⟩, e6, H⟩ := H
    (try dsimp only at H)
    have A48 := qa19 e6
    clear e6
    by_cases c49 : 0 ≤ ba
    ·rw [if_pos c49] at H
     have c49b0 : decide (0 ≤ ba) = true := decide_eq_true c49
     clear c49
     by_cases c50 : ba < (y316.length : Int)
     ·rw [if_pos c50] at H
      have c50b0 : decide (ba < (y316.length : Int)) = true := decide_eq_true c50
      clear c50
      simp only [Option.some.injEq, Prod.mk.injEq] at H
      obtain ⟨rfl, rfl, rfl, rfl, rfl, rfl⟩ := H
      go_enter Tryd.func19, Tryd.ntmps19
      try go_wp2_with (first | ((with_reducible refine gate_dst (N := 4) rfl ?_); refine box_event ?hg (N := 4) ?hd (cs := #[.slice none 0 0, .int .i64 0, .int .i64 0, .slice none 0 0, .int .i64 0]) (t := 26) ?hr ?_; (case hd => rfl); (case hg => rfl); (case hr => go_simp <;> rfl); intro ad hg w51 hbox hb; have n0_ := qa19 (qB19 HI0.out hb); have n1_ := qa19 (qd19 HK.out (qt19 hb g none) (.inl rfl)); have n2_ := qa19 (qF19 HB.out hb); have n3_ := qa19 (hbox); have n4_ := qa19 ((by rw [hg]; exact (keep_size (w := w) (g := g) (row := none) HK.out) : w.heap.size ≤ ad)); have n5_ := qa19 (Nat.le_trans HW0.out n4_.out); have n6_ := qa19 ((by rw [hg]; exact Nat.ne_of_lt (IsS71.lt (show IsS71 w0 _ g s0_0 s0_1 from HI0.out)) : g ≠ ad)); have n7_ := qa19 (Ne.symm n6_.out); replace HI0 := n0_; replace HK := n1_; replace HB := n2_; have ab := n3_; have aC := n4_; have aH := n5_; have ap := n6_; have am := n7_; clear n0_ n1_ n2_ n3_ n4_ n5_ n6_ n7_; clear hb hbox hg) | ((with_reducible refine gate_callee (f := 40) rfl ?_); refine goesL_ (some 8) rfl rfl Tryd.func40 (by kernel_rfl) rfl #[.pointer (some ⟨g, 0, none⟩)] rfl (by (try simp only [qh19, ql19, qp19]) <;> rfl) ?_; (with_reducible refine (spec_l20Table.calls k g s0_0 s0_1 ah ai aj af al ax w0 _ ?side1 ?side2 A3.out).mono ?_); (case side1 => exact HI0.out); (case side2 => exact HB.out); rintro e w52 ⟨b2, b4, rfl, ho0, ho1, hi, hb, hk⟩; refine ⟨_, rfl, ?_⟩; have n0_ := qa19 (qe19 hk (g' := ad) (o := .cells #[.slice none 0 0, .int .i64 0, .int .i64 0, .slice none 0 0, .int .i64 0] 26 (0, 0)) ab.out am.out (by simp)); have n1_ := qa19 (Kd.R_lower ho0 (keep_size (w := w) (g := g) (row := none) HK.out)); have n2_ := qa19 (Kd.S_lower ho1 (keep_size (w := w) (g := g) (row := none) HK.out)); have n3_ := qa19 (qd19 HK.out hk (.inl rfl)); have n4_ := qa19 (hb); have n5_ := qa19 (hi); replace ab := n0_; have ag := n1_; have ae := n2_; replace HK := n3_; replace HB := n4_; replace HI0 := n5_; clear n0_ n1_ n2_ n3_ n4_ n5_; (try clear hb hk hi); (try clear ho0); (try clear ho1)) | ((with_reducible refine gate_dst (N := 5) rfl ?_); refine box_event ?hg (N := 5) ?hd (cs := #[.slice none 0 0, .int .i64 0, .int .i64 0, .slice none 0 0, .int .i64 0]) (t := 26) ?hr ?_; (case hd => rfl); (case hg => rfl); (case hr => go_simp <;> rfl); intro ac hg w53 hbox hb; have n0_ := qa19 (Kd.R_below ag.out hb); have n1_ := qa19 (Kd.S_below ae.out hb); have n2_ := qa19 (qB19 HI0.out hb); have n3_ := qa19 (blk_below (g := ad) (o := .cells #[.slice none 0 0, .int .i64 0, .int .i64 0, .slice none 0 0, .int .i64 0] 26 (0, 0)) ab.out hb); have n4_ := qa19 (qd19 HK.out (qt19 hb g none) (.inl rfl)); have n5_ := qa19 (qF19 HB.out hb); have n6_ := qa19 (hbox); have n7_ := qa19 ((by rw [hg]; exact (keep_size (w := w) (g := g) (row := none) HK.out) : w.heap.size ≤ ac)); have n8_ := qa19 (Nat.le_trans HW0.out n7_.out); have n9_ := qa19 ((by rw [hg]; exact Nat.ne_of_lt (blk_lt (g := ad) (o := .cells #[.slice none 0 0, .int .i64 0, .int .i64 0, .slice none 0 0, .int .i64 0] 26 (0, 0)) ab.out) : ad ≠ ac)); have a9 := qa19 (Ne.symm n9_.out); have aM := qa19 ((by rw [hg]; exact Nat.ne_of_lt (IsS71.lt (show IsS71 w0 _ g s0_0 ax from HI0.out)) : g ≠ ac)); have a7 := qa19 (Ne.symm aM.out); replace ag := n0_; replace ae := n1_; replace HI0 := n2_; replace ab := n3_; replace HK := n4_; replace HB := n5_; have aa := n6_; have aD := n7_; have aG := n8_; have ak := n9_; have ar := a9; have an := aM; have ao := a7; clear n0_ n1_ n2_ n3_ n4_ n5_ n6_ n7_ n8_ n9_ a9 aM a7; clear hb hbox hg; obtain ⟨aI, aK, gv⟩ := Kd.R_slice ag.out; subst gv; have hnb55 := ar.out; have hnc55 := ak.out; have hnb56 := ao.out; have hnc56 := an.out; have lg := bq19_ aa.out 0 rfl; have jY := bq19_ aa.out 1 rfl; have k0 := bq19_ aa.out 2 rfl; have jh := bq19_ aa.out 3 rfl; have jW := bq19_ aa.out 4 rfl; have jw := qb19 aa.out 0; have kV := qb19 aa.out 1; have kT := qb19 aa.out 2; have jn := qb19 aa.out 3; have kk := qb19 aa.out 4; obtain ⟨a4, a5, gP⟩ := Kd.S_slice ae.out; subst gP) | ((with_reducible refine gate_callee (f := 34) rfl ?_); refine goesL_ (some 11) rfl rfl Tryd.func34 (by kernel_rfl) rfl #[.pointer (some ⟨g, 0, none⟩), .int .i64 a1] rfl (by (try simp only [qh19, ql19, qp19]) <;> rfl) ?_; (with_reducible refine (spec_l20Rd_pick.calls k g s0_0 ax a1 bu aX w0 _ ?side1 ?side2 A4.out).mono ?_); (case side1 => repeat (first | (with_reducible first | exact HI0.out | apply qv19 | apply qw19 | apply qu19 | apply qx19 | refine qi19 ?_ ap.out _ | refine qi19 ?_ an.out _) | exact HI0.out)); (case side2 => repeat (first | (with_reducible first | exact HB.out | apply below_alloc | apply qC19 | apply qD19 | refine qn19 ?_ (IsS71.ge HI0.out) | refine qn19 ?_ aH.out | refine qn19 ?_ aG.out) | exact HB.out)); rintro e w59 ⟨rfl, hi, hb, hk⟩; refine ⟨_, rfl, ?_⟩; have n0_ := qa19 (qe19 hk (g' := ad) (o := .cells #[.slice none 0 0, .int .i64 0, .int .i64 0, .slice none 0 0, .int .i64 0] 26 (0, 0)) (by (with_reducible repeat (first | apply qo19 | apply qm19 | apply qj19)); refine blk_far ?_ ak.out _; refine blk_far ?_ ak.out _; refine blk_far ?_ ak.out _; refine blk_far ?_ ak.out _; refine blk_far ?_ ak.out _; (with_reducible repeat (first | apply qo19 | apply qm19 | apply qj19)); exact ab.out) am.out (by simp)); have n1_ := qa19 (qk19 (qy19 (qr19 (show IsS71 w0 _ g s0_0 ax from by repeat (first | (with_reducible first | exact HI0.out | apply qv19 | apply qw19 | apply qu19 | apply qx19 | refine qi19 ?_ ap.out _ | refine qi19 ?_ an.out _) | exact HI0.out)) (by (with_reducible repeat (first | apply Kd.R_alloc | apply Kd.R_drewN | apply Kd.R_drew)); exact (qk19 (qf19 (p := ⟨ac, 4, none⟩) (qf19 (p := ⟨ac, 3, none⟩) (qf19 (p := ⟨ac, 2, none⟩) (qf19 (p := ⟨ac, 1, none⟩) (qf19 (p := ⟨ac, 0, none⟩) (Kd.R_types ag.out aa.out (by decide)) (fun _ hk => hk.2) (.slice aI ah.length aK)) (fun _ hk => hk.2) (.int .i64 ai)) (fun _ hk => hk.2) (.int .i64 aj)) (fun _ hk => hk.2) (.slice a4 af.length a5)) (fun _ hk => hk.2) (.int .i64 al)) (fun _ h_ => h_.1))) (by decide)) hk (fun _ h => h.2)) (fun _ h => h.1)); have n2_ := qa19 (qq19 (qA19 (qs19 (show IsS71 w0 _ g s0_0 ax from by repeat (first | (with_reducible first | exact HI0.out | apply qv19 | apply qw19 | apply qu19 | apply qx19 | refine qi19 ?_ ap.out _ | refine qi19 ?_ an.out _) | exact HI0.out)) (by (with_reducible repeat (first | apply Kd.S_alloc | apply Kd.S_drewN | apply Kd.S_drew)); exact (qq19 (qg19 (p := ⟨ac, 4, none⟩) (qg19 (p := ⟨ac, 3, none⟩) (qg19 (p := ⟨ac, 2, none⟩) (qg19 (p := ⟨ac, 1, none⟩) (qg19 (p := ⟨ac, 0, none⟩) (Kd.S_types ae.out aa.out (by decide)) (fun _ hk => hk.2) (.slice aI ah.length aK)) (fun _ hk => hk.2) (.int .i64 ai)) (fun _ hk => hk.2) (.int .i64 aj)) (fun _ hk => hk.2) (.slice a4 af.length a5)) (fun _ hk => hk.2) (.int .i64 al)) (fun _ h_ => h_.1))) (by decide)) hk (fun _ h => h.2)) (fun _ h => h.1)); have n3_ := qa19 (qe19 hk (g' := ac) (o := .cells #[.slice aI ah.length aK, .int .i64 ai, .int .i64 aj, .slice a4 af.length a5, .int .i64 al] 26 (0, 0)) (by (with_reducible repeat (first | apply qo19 | apply qm19 | apply qj19)); refine blk_put (cs := #[.slice aI ah.length aK, .int .i64 ai, .int .i64 aj, .slice a4 af.length a5, .int .i64 0]) ?_ 4 _ rfl; refine blk_put (cs := #[.slice aI ah.length aK, .int .i64 ai, .int .i64 aj, .slice none 0 0, .int .i64 0]) ?_ 3 _ rfl; refine blk_put (cs := #[.slice aI ah.length aK, .int .i64 ai, .int .i64 0, .slice none 0 0, .int .i64 0]) ?_ 2 _ rfl; refine blk_put (cs := #[.slice aI ah.length aK, .int .i64 0, .int .i64 0, .slice none 0 0, .int .i64 0]) ?_ 1 _ rfl; refine blk_put (cs := #[.slice none 0 0, .int .i64 0, .int .i64 0, .slice none 0 0, .int .i64 0]) ?_ 0 _ rfl; (with_reducible repeat (first | apply qo19 | apply qm19 | apply qj19)); exact aa.out) ao.out (by simp)); have n4_ := qa19 (qd19 (by repeat (first | (with_reducible first | exact HK.out | apply qE19 | apply keep_drewN | apply keep_drew | apply keep_alloc | refine qz19 ?_ aC.out _ | refine qz19 ?_ aD.out _) | exact HK.out)) hk (.inl rfl)); have n5_ := qa19 (hb); have n6_ := qa19 (hi); replace ab := n0_; replace ag := n1_; replace ae := n2_; replace aa := n3_; replace HK := n4_; replace HB := n5_; replace HI0 := n6_; clear n0_ n1_ n2_ n3_ n4_ n5_ n6_; (try clear hb hk hi); have jr := bq19_ aa.out 0 rfl; have ju := bq19_ aa.out 1 rfl; have jB := bq19_ aa.out 2 rfl; have ki := bq19_ aa.out 3 rfl; have k2 := bq19_ aa.out 4 rfl; have lb := qb19 aa.out 0; have jM := qb19 aa.out 1; have kF := qb19 aa.out 2; have h4 := qb19 aa.out 3; have kv := qb19 aa.out 4) | ((with_reducible refine gate_callee (f := 34) rfl ?_); refine goesL_ (some 18) rfl rfl Tryd.func34 (by kernel_rfl) rfl #[.pointer (some ⟨g, 0, none⟩), .int .i64 (af.length : Int)] rfl (by (try simp only [qh19, ql19, qp19]) <;> rfl) ?_; (with_reducible refine (spec_l20Rd_pick.calls k g s0_0 aX (af.length : Int) aq aY w0 _ ?side1 ?side2 A18.out).mono ?_); (case side1 => exact HI0.out); (case side2 => exact HB.out); rintro e w61 ⟨rfl, hi, hb, hk⟩; refine ⟨_, rfl, ?_⟩; have n0_ := qa19 (qe19 hk (g' := ad) (o := .cells #[.slice none 0 0, .int .i64 0, .int .i64 0, .slice none 0 0, .int .i64 0] 26 (0, 0)) ab.out am.out (by simp)); have n1_ := qa19 (qk19 (qy19 (qr19 (show IsS71 w0 _ g s0_0 aX from HI0.out) ag.out (by decide)) hk (fun _ h => h.2)) (fun _ h => h.1)); have n2_ := qa19 (qq19 (qA19 (qs19 (show IsS71 w0 _ g s0_0 aX from HI0.out) ae.out (by decide)) hk (fun _ h => h.2)) (fun _ h => h.1)); have n3_ := qa19 (qe19 hk (g' := ac) (o := .cells #[.slice aI ah.length aK, .int .i64 ai, .int .i64 aj, .slice a4 af.length a5, .int .i64 al] 26 (0, 0)) aa.out ao.out (by simp)); have n4_ := qa19 (qd19 HK.out hk (.inl rfl)); have n5_ := qa19 (hb); have n6_ := qa19 (hi); replace ab := n0_; replace ag := n1_; replace ae := n2_; replace aa := n3_; replace HK := n4_; replace HB := n5_; replace HI0 := n6_; clear n0_ n1_ n2_ n3_ n4_ n5_ n6_; (try clear hb hk hi)) | ((with_reducible refine gate_callee (f := 34) rfl ?_); refine goesL_ (some 20) rfl rfl Tryd.func34 (by kernel_rfl) rfl #[.pointer (some ⟨g, 0, none⟩), .int .i64 6] rfl (by (try simp only [qh19, ql19, qp19]) <;> rfl) ?_; (with_reducible refine (spec_l20Rd_pick.calls k g s0_0 aY 6 aE av w0 _ ?side1 ?side2 A19.out).mono ?_); (case side1 => exact HI0.out); (case side2 => exact HB.out); rintro e w62 ⟨rfl, hi, hb, hk⟩; refine ⟨_, rfl, ?_⟩; have n0_ := qa19 (qe19 hk (g' := ad) (o := .cells #[.slice none 0 0, .int .i64 0, .int .i64 0, .slice none 0 0, .int .i64 0] 26 (0, 0)) ab.out am.out (by simp)); have n1_ := qa19 (qk19 (qy19 (qr19 (show IsS71 w0 _ g s0_0 aY from HI0.out) ag.out (by decide)) hk (fun _ h => h.2)) (fun _ h => h.1)); have n2_ := qa19 (qq19 (qA19 (qs19 (show IsS71 w0 _ g s0_0 aY from HI0.out) ae.out (by decide)) hk (fun _ h => h.2)) (fun _ h => h.1)); have n3_ := qa19 (qe19 hk (g' := ac) (o := .cells #[.slice aI ah.length aK, .int .i64 ai, .int .i64 aj, .slice a4 af.length a5, .int .i64 al] 26 (0, 0)) aa.out ao.out (by simp)); have n4_ := qa19 (qd19 HK.out hk (.inl rfl)); have n5_ := qa19 (hb); have n6_ := qa19 (hi); replace ab := n0_; replace ag := n1_; replace ae := n2_; replace aa := n3_; replace HK := n4_; replace HB := n5_; replace HI0 := n6_; clear n0_ n1_ n2_ n3_ n4_ n5_ n6_; (try clear hb hk hi)))
      have pi321 : (0 ≤ (ba : Int)) = True := eq_true (of_decide_eq_true (by first | (with_reducible assumption) | assumption))
      have qi321 : (ba < (y316.length : Int)) = True := eq_true (of_decide_eq_true (by first | (with_reducible assumption) | assumption))
      have n0_ := qa19 (Kd.R_drew ag.out)
      have n1_ := qa19 (Kd.S_drew ae.out)
      have n2_ := qa19 (qm19 ab.out)
      have n3_ := qa19 (qm19 aa.out)
      have n4_ := qa19 (qu19 HI0.out)
      have n5_ := qa19 (keep_drew HK.out)
      have n6_ := qa19 (qD19 HB.out)
      replace ag := n0_
      replace ae := n1_
      replace ab := n2_
      replace aa := n3_
      replace HI0 := n4_
      replace HK := n5_
      replace HB := n6_
      clear n0_ n1_ n2_ n3_ n4_ n5_ n6_
      refine start_ (n := 10) (S := fun w' => w'.cell? ⟨ac, 0, none⟩ = some (.slice aI ah.length aK) ∧ w'.cell? ⟨ac, 1, none⟩ = some (.int .i64 ai) ∧ w'.cell? ⟨ac, 2, none⟩ = some (.int .i64 aj) ∧ w'.cell? ⟨ac, 3, none⟩ = some (.slice a4 af.length a5) ∧ w'.cell? ⟨ac, 4, none⟩ = some (.int .i64 al)) (ds := [9]) m19_0 (by kernel_rfl) rfl rfl ⟨(qc19 aa.out 0).trans rfl, (qc19 aa.out 1).trans rfl, (qc19 aa.out 2).trans rfl, (qc19 aa.out 3).trans rfl, (qc19 aa.out 4).trans rfl⟩ (fun hHeld => ?_); refine with_tabW spec_l20AnyTable.tab11 spec_l20AnyTable.bits11 (fun HT_ HW_ => ?_)
      generalize w62.drew = w63 at ag ae ab aa HI0 HK HB hHeld ⊢
      refine pure_ (i := 0) (N := some 44) (v := ?_) (a' := ?_) m19_1 rfl rfl (any_of HT_.out (by kernel_rfl)) (fun _ _ _ h => h) (Or.inl ⟨by rfl, ?_⟩) ?_ ?_
      rotate_left
      ·intro w'
       go_simp
       with_reducible rfl
      rotate_left
      ·simp only [Act.put, qa_, qb_, qc_, i64_w, i32_w]
       rfl
      refine pure_ (i := 4) (N := some 48) (v := ?_) (a' := ?_) m19_2 rfl rfl (any_of HT_.out (by kernel_rfl)) (fun _ _ _ h => h) (Or.inl ⟨by rfl, ?_⟩) ?_ ?_
      rotate_left
      ·intro w'
       go_simp
       with_reducible rfl
      rotate_left
      ·simp only [Act.put, qa_, qb_, qc_, i64_w, i32_w]
       rfl
      refine take_ (i := 1) (N := some 45) (v := ?_) (a' := ?_) m19_3 rfl rfl (take_ofW HT_.out HW_.out (by kernel_rfl)) (fun _ _ _ h => h) (Or.inl ⟨by rfl, ?_⟩) hHeld ?_ ?_
      rotate_left
      ·rintro w' ⟨s0, s1, s2, s3, s4⟩
       go_simp
       with_reducible rfl
      rotate_left
      ·simp only [Act.put, qa_, qb_, qc_, i64_w, i32_w]
       rfl
      refine pure_ (i := 2) (N := some 46) (v := ?_) (a' := ?_) m19_4 rfl rfl (any_of HT_.out (by kernel_rfl)) (fun _ _ _ h => h) (Or.inl ⟨by rfl, ?_⟩) ?_ ?_
      rotate_left
      ·intro w'
       go_simp
       with_reducible rfl
      rotate_left
      ·simp only [Act.put, qa_, qb_, qc_, i64_w, i32_w]
       rfl
      refine join_ (σ := Value × Addr) 4 m19_5 (fun s_ => [(47, s_.1), (49, .int .i64 ba)]) (fun s_ w' => (w'.cell? ⟨ac, 0, none⟩ = some (.slice aI ah.length aK) ∧ w'.cell? ⟨ac, 1, none⟩ = some (.int .i64 ai) ∧ w'.cell? ⟨ac, 2, none⟩ = some (.int .i64 aj) ∧ w'.cell? ⟨ac, 3, none⟩ = some (.slice a4 af.length a5) ∧ w'.cell? ⟨ac, 4, none⟩ = some (.int .i64 al)) ∧ (Kd.R k29 29 w' w.heap.size (fun _ => True) (.slice aI ah.length aK) ah) ∧ (Kd.S k32 32 w' w.heap.size (fun _ => True) (.slice a4 af.length a5) af) ∧ (Kd.R (Kd.int .i64) 3 w' w.heap.size (fun _ => True) s_.1 y316) ∧ (∃ c_, (s_.1 : Value) = .slice (some s_.2) y316.length c_) ∧ (w'.heap[ad]? = some (.cells #[.slice none 0 0, .int .i64 0, .int .i64 0, .slice none 0 0, .int .i64 0] 26 (0, 0))) ∧ (w'.heap[ac]? = some (.cells #[.slice aI ah.length aK, .int .i64 ai, .int .i64 aj, .slice a4 af.length a5, .int .i64 al] 26 (0, 0))) ∧ (IsS71 w0 w' g s0_0 cM) ∧ (KeepBut w w' g none) ∧ (Below w0.heap.size w0 w')) ?_ ?_
      rotate_left
      ·intro hCont
       refine two_ (i := 3) (j := 5) (Ni := some 47) (Nj := some 49) m19_6 m19_7 rfl rfl rfl rfl (two_of HT_.out (by kernel_rfl)) (by decide) (by decide) (fun K hK => ?_) (fun K hK => ?_)
       ·skip
        refine Kd.R_lit_step (Kd.int .i64) _ 3 ?hg (N := 47) ?hd (xs := ([(-1), 9, (af.length : Int)] : List Int)) (inner := [.int .i64 (-1), .int .i64 9, .int .i64 (af.length : Int)]) (ok := fun _ => True) (okp := fun _ => True) ?hr ?hp (fun _ hk => hk) trivial (Below.refl _ _) (Nat.le_refl _) (by simp) ?_; (case hd => rfl); (case hg => rfl); (case hr => go_simp <;> rfl); (case hp => exact (Reps.one (show Kd.M (Kd.int .i64) _ _ _ (-1) [.int .i64 (-1)] from rfl) (Reps.one (show Kd.M (Kd.int .i64) _ _ _ 9 [.int .i64 9] from rfl) (Reps.one (show Kd.M (Kd.int .i64) _ _ _ (af.length : Int) [.int .i64 (af.length : Int)] from rfl) (Reps.none _ _)))))
        intro cJ w64 b9 hb hg_ hnew_
        clear hg_ hnew_
        (first | rw [← bF.out] at b9 | (simp only [Int.reduceToNat] at b9; rw [← bF.out] at b9))
        have n0_ := qa19 (Kd.R_below ag.out hb)
        have n1_ := qa19 (Kd.S_below ae.out hb)
        have n2_ := qa19 (Kd.R_lower b9 (keep_size (w := w) (g := g) (row := none) HK.out))
        have n3_ := qa19 (qB19 HI0.out hb)
        have n4_ := qa19 (blk_below (g := ad) (o := .cells #[.slice none 0 0, .int .i64 0, .int .i64 0, .slice none 0 0, .int .i64 0] 26 (0, 0)) ab.out hb)
        have n5_ := qa19 (blk_below (g := ac) (o := .cells #[.slice aI ah.length aK, .int .i64 ai, .int .i64 aj, .slice a4 af.length a5, .int .i64 al] 26 (0, 0)) aa.out hb)
        have n6_ := qa19 (qd19 HK.out (qt19 hb g none) (.inl rfl))
        have n7_ := qa19 (qF19 HB.out hb)
        replace ag := n0_
        replace ae := n1_
        have bg := n2_
        replace HI0 := n3_
        replace ab := n4_
        replace aa := n5_
        replace HK := n6_
        replace HB := n7_
        clear n0_ n1_ n2_ n3_ n4_ n5_ n6_ n7_
        clear hb b9
        obtain ⟨Ao66, gn, gd⟩ := Kd.R_slice bg.out
        subst gd
        obtain ⟨eJ, gO, _⟩ := Kd.at_int (Kd.R_reads' bg.out).2.2 0 (by decide) (by rw [bF.out]; simp)
        cases gO
        refine hK.out _ _ ⟨(qc19 aa.out 0).trans rfl, (qc19 aa.out 1).trans rfl, (qc19 aa.out 2).trans rfl, (qc19 aa.out 3).trans rfl, (qc19 aa.out 4).trans rfl⟩ (fun hHeld => ?_)
        clear hK K
        refine norm_ (a' := ?_) ?_ ?_
        rotate_left
        ·show Act.put _ (some 47) _ = _
         simp only [Act.put, qa_, qb_, qc_, i64_w, i32_w]
         rfl
        refine one_ (i := 5) (N := some 49) m19_5 rfl rfl (one_of HT_.out (by kernel_rfl)) (by decide) (fun K hK => ?_)
        refine goes_ Tryd.func34 (by kernel_rfl) rfl #[.pointer (some ⟨g, 0, none⟩), .int .i64 3] (by rfl) rfl rfl (by (try simp only [qh19, ql19, qp19]); first | done | rfl | (simp only [List.length_drop, List.length_take]; rfl)) ?_
        with_reducible refine (spec_l20Rd_pick.calls k g s0_0 av 3 ba cM w0 _ ?side1 ?side2 A48.out).mono ?_
        (case side1 => exact HI0.out)
        (case side2 => exact HB.out)
        rintro e w67 ⟨rfl, hi, hb, hk⟩
        refine ⟨_, rfl, ?_⟩
        have n0_ := qa19 (qe19 hk (g' := ad) (o := .cells #[.slice none 0 0, .int .i64 0, .int .i64 0, .slice none 0 0, .int .i64 0] 26 (0, 0)) ab.out am.out (by simp))
        have n1_ := qa19 (qk19 (qy19 (qr19 (show IsS71 w0 _ g s0_0 av from HI0.out) ag.out (by decide)) hk (fun _ h => h.2)) (fun _ h => h.1))
        have n2_ := qa19 (qq19 (qA19 (qs19 (show IsS71 w0 _ g s0_0 av from HI0.out) ae.out (by decide)) hk (fun _ h => h.2)) (fun _ h => h.1))
        have n3_ := qa19 (qe19 hk (g' := ac) (o := .cells #[.slice aI ah.length aK, .int .i64 ai, .int .i64 aj, .slice a4 af.length a5, .int .i64 al] 26 (0, 0)) aa.out ao.out (by simp))
        have n4_ := qa19 (qk19 (qy19 (qr19 (show IsS71 w0 _ g s0_0 av from HI0.out) bg.out (by decide)) hk (fun _ h => h.2)) (fun _ h => h.1))
        have n5_ := qa19 (qd19 HK.out hk (.inl rfl))
        have n6_ := qa19 (hb)
        have n7_ := qa19 (hi)
        replace ab := n0_
        replace ag := n1_
        replace ae := n2_
        replace aa := n3_
        replace bg := n4_
        replace HK := n5_
        replace HB := n6_
        replace HI0 := n7_
        clear n0_ n1_ n2_ n3_ n4_ n5_ n6_ n7_
        (try clear hb)
        (try clear hb2)
        (try clear hk)
        (try clear hi)
        refine hK.out _ _ ⟨(qc19 aa.out 0).trans rfl, (qc19 aa.out 1).trans rfl, (qc19 aa.out 2).trans rfl, (qc19 aa.out 3).trans rfl, (qc19 aa.out 4).trans rfl⟩ (fun hHeld => ?_)
        clear hK K
        refine norm_ (a' := ?_) ?_ ?_
        rotate_left
        ·show Act.put _ (some 49) _ = _
         simp only [Act.put, qa_, qb_, qc_, i64_w, i32_w]
         rfl
        exact norm_ (by simp only [putAll, Act.put, qa_, qb_, qc_]) (hCont (.slice (some eJ) y316.length gn, eJ) _ ⟨hHeld, ag.out, ae.out, bg.out, ⟨_, rfl⟩, ab.out, aa.out, HI0.out, HK.out, HB.out⟩)
       ·skip
        refine goes_ Tryd.func34 (by kernel_rfl) rfl #[.pointer (some ⟨g, 0, none⟩), .int .i64 3] (by rfl) rfl rfl (by (try simp only [qh19, ql19, qp19]); first | done | rfl | (simp only [List.length_drop, List.length_take]; rfl)) ?_
        with_reducible refine (spec_l20Rd_pick.calls k g s0_0 av 3 ba cM w0 _ ?side1 ?side2 A48.out).mono ?_
        (case side1 => exact HI0.out)
        (case side2 => exact HB.out)
        rintro e w64 ⟨rfl, hi, hb, hk⟩
        refine ⟨_, rfl, ?_⟩
        have n0_ := qa19 (qe19 hk (g' := ad) (o := .cells #[.slice none 0 0, .int .i64 0, .int .i64 0, .slice none 0 0, .int .i64 0] 26 (0, 0)) ab.out am.out (by simp))
        have n1_ := qa19 (qk19 (qy19 (qr19 (show IsS71 w0 _ g s0_0 av from HI0.out) ag.out (by decide)) hk (fun _ h => h.2)) (fun _ h => h.1))
        have n2_ := qa19 (qq19 (qA19 (qs19 (show IsS71 w0 _ g s0_0 av from HI0.out) ae.out (by decide)) hk (fun _ h => h.2)) (fun _ h => h.1))
        have n3_ := qa19 (qe19 hk (g' := ac) (o := .cells #[.slice aI ah.length aK, .int .i64 ai, .int .i64 aj, .slice a4 af.length a5, .int .i64 al] 26 (0, 0)) aa.out ao.out (by simp))
        have n4_ := qa19 (qd19 HK.out hk (.inl rfl))
        have n5_ := qa19 (hb)
        have n6_ := qa19 (hi)
        replace ab := n0_
        replace ag := n1_
        replace ae := n2_
        replace aa := n3_
        replace HK := n4_
        replace HB := n5_
        replace HI0 := n6_
        clear n0_ n1_ n2_ n3_ n4_ n5_ n6_
        (try clear hb)
        (try clear hb2)
        (try clear hk)
        (try clear hi)
        refine hK.out _ _ ⟨(qc19 aa.out 0).trans rfl, (qc19 aa.out 1).trans rfl, (qc19 aa.out 2).trans rfl, (qc19 aa.out 3).trans rfl, (qc19 aa.out 4).trans rfl⟩ (fun hHeld => ?_)
        clear hK K
        refine norm_ (a' := ?_) ?_ ?_
        rotate_left
        ·show Act.put _ (some 49) _ = _
         simp only [Act.put, qa_, qb_, qc_, i64_w, i32_w]
         rfl
        refine one_ (i := 3) (N := some 47) m19_5 rfl rfl (one_of HT_.out (by kernel_rfl)) (by decide) (fun K hK => ?_)
        refine Kd.R_lit_step (Kd.int .i64) _ 3 ?hg (N := 47) ?hd (xs := ([(-1), 9, (af.length : Int)] : List Int)) (inner := [.int .i64 (-1), .int .i64 9, .int .i64 (af.length : Int)]) (ok := fun _ => True) (okp := fun _ => True) ?hr ?hp (fun _ hk => hk) trivial (Below.refl _ _) (Nat.le_refl _) (by simp) ?_; (case hd => rfl); (case hg => rfl); (case hr => go_simp <;> rfl); (case hp => exact (Reps.one (show Kd.M (Kd.int .i64) _ _ _ (-1) [.int .i64 (-1)] from rfl) (Reps.one (show Kd.M (Kd.int .i64) _ _ _ 9 [.int .i64 9] from rfl) (Reps.one (show Kd.M (Kd.int .i64) _ _ _ (af.length : Int) [.int .i64 (af.length : Int)] from rfl) (Reps.none _ _)))))
        intro cJ w65 ci hb hg_ hnew_
        clear hg_ hnew_
        (first | rw [← bF.out] at ci | (simp only [Int.reduceToNat] at ci; rw [← bF.out] at ci))
        have n0_ := qa19 (Kd.R_below ag.out hb)
        have n1_ := qa19 (Kd.S_below ae.out hb)
        have n2_ := qa19 (Kd.R_lower ci (keep_size (w := w) (g := g) (row := none) HK.out))
        have n3_ := qa19 (qB19 HI0.out hb)
        have n4_ := qa19 (blk_below (g := ad) (o := .cells #[.slice none 0 0, .int .i64 0, .int .i64 0, .slice none 0 0, .int .i64 0] 26 (0, 0)) ab.out hb)
        have n5_ := qa19 (blk_below (g := ac) (o := .cells #[.slice aI ah.length aK, .int .i64 ai, .int .i64 aj, .slice a4 af.length a5, .int .i64 al] 26 (0, 0)) aa.out hb)
        have n6_ := qa19 (qd19 HK.out (qt19 hb g none) (.inl rfl))
        have n7_ := qa19 (qF19 HB.out hb)
        replace ag := n0_
        replace ae := n1_
        have bg := n2_
        replace HI0 := n3_
        replace ab := n4_
        replace aa := n5_
        replace HK := n6_
        replace HB := n7_
        clear n0_ n1_ n2_ n3_ n4_ n5_ n6_ n7_
        clear hb ci
        obtain ⟨Ao67, gQ, gr⟩ := Kd.R_slice bg.out
        subst gr
        obtain ⟨eE, gK, _⟩ := Kd.at_int (Kd.R_reads' bg.out).2.2 0 (by decide) (by rw [bF.out]; simp)
        cases gK
        refine hK.out _ _ ⟨(qc19 aa.out 0).trans rfl, (qc19 aa.out 1).trans rfl, (qc19 aa.out 2).trans rfl, (qc19 aa.out 3).trans rfl, (qc19 aa.out 4).trans rfl⟩ (fun hHeld => ?_)
        clear hK K
        refine norm_ (a' := ?_) ?_ ?_
        rotate_left
        ·show Act.put _ (some 47) _ = _
         simp only [Act.put, qa_, qb_, qc_, i64_w, i32_w]
         rfl
        exact norm_ (by simp only [putAll, Act.put, qa_, qb_, qc_]) (hCont (.slice (some eE) y316.length gQ, eE) _ ⟨hHeld, ag.out, ae.out, bg.out, ⟨_, rfl⟩, ab.out, aa.out, HI0.out, HK.out, HB.out⟩)
      rintro ⟨cJ, cu⟩ w68 ⟨hS_, h0_, h1_, h2_, h3_, h4_, h5_, h6_, h7_, h8_⟩
      have n0_ : Aside0 (Kd.R k29 29 w68 w.heap.size (fun _ => True) (.slice aI ah.length aK) ah) := ⟨h0_⟩
      have n1_ : Aside0 (Kd.S k32 32 w68 w.heap.size (fun _ => True) (.slice a4 af.length a5) af) := ⟨h1_⟩
      have n2_ : Aside0 (Kd.R (Kd.int .i64) 3 w68 w.heap.size (fun _ => True) cJ y316) := ⟨h2_⟩
      have n3_ : Aside0 (∃ c_, (cJ : Value) = .slice (some cu) y316.length c_) := ⟨h3_⟩
      have n4_ : Aside0 (w68.heap[ad]? = some (.cells #[.slice none 0 0, .int .i64 0, .int .i64 0, .slice none 0 0, .int .i64 0] 26 (0, 0))) := ⟨h4_⟩
      have n5_ : Aside0 (w68.heap[ac]? = some (.cells #[.slice aI ah.length aK, .int .i64 ai, .int .i64 aj, .slice a4 af.length a5, .int .i64 al] 26 (0, 0))) := ⟨h5_⟩
      have n6_ : Aside0 (IsS71 w0 w68 g s0_0 cM) := ⟨h6_⟩
      have n7_ : Aside0 (KeepBut w w68 g none) := ⟨h7_⟩
      have n8_ : Aside0 (Below w0.heap.size w0 w68) := ⟨h8_⟩
      clear h0_ h1_ h2_ h3_ h4_ h5_ h6_ h7_ h8_
      replace ag := n0_
      replace ae := n1_
      have bg := n2_
      have cb := n3_
      replace ab := n4_
      replace aa := n5_
      replace HI0 := n6_
      replace HK := n7_
      replace HB := n8_
      clear n0_ n1_ n2_ n3_ n4_ n5_ n6_ n7_ n8_
      have hHeld : w68.cell? ⟨ac, 0, none⟩ = some (.slice aI ah.length aK) ∧ w68.cell? ⟨ac, 1, none⟩ = some (.int .i64 ai) ∧ w68.cell? ⟨ac, 2, none⟩ = some (.int .i64 aj) ∧ w68.cell? ⟨ac, 3, none⟩ = some (.slice a4 af.length a5) ∧ w68.cell? ⟨ac, 4, none⟩ = some (.int .i64 al) := hS_
      obtain ⟨co69, gc⟩ := cb.out
      clear cb
      subst gc
      refine norm_ (a' := ?_) ?_ ?_
      rotate_left
      ·simp only [putAll, Act.put, qa_, qb_, qc_]
       rfl
      refine pure_ (i := 6) (N := some 50) (v := ?_) (a' := ?_) m19_8 rfl rfl (any_of HT_.out (by kernel_rfl)) (fun _ _ _ h => h) (Or.inl ⟨by rfl, ?_⟩) ?_ ?_
      rotate_left
      ·intro w'
       go_simp
       with_reducible rfl
      rotate_left
      ·simp only [Act.put, qa_, qb_, qc_, i64_w, i32_w]
       rfl
      refine one_ (i := 7) (N := some 51) m19_9 rfl rfl (one_of HT_.out (by kernel_rfl)) (by decide) (fun K hK => ?_)
      (have hA : 0 ≤ (ba : Int) := of_decide_eq_true (by first | (with_reducible assumption) | assumption); have hu : ba < (y316.length : Int) := of_decide_eq_true (by first | (with_reducible assumption) | assumption); obtain ⟨fP, fZ, eV⟩ := Kd.at_int (Kd.R_reads' bg.out).2.2 ba hA hu; obtain rfl : cu = fP := (by injection fZ))
      refine value_ (w1 := ?_) (v := ?_) (by rfl) rfl ?_ ?_
      rotate_left 2
      ·go_simp
       constructor
       ·rfl
       ·rfl
      clear eV
      refine hK.out _ _ ⟨(qc19 aa.out 0).trans rfl, (qc19 aa.out 1).trans rfl, (qc19 aa.out 2).trans rfl, (qc19 aa.out 3).trans rfl, (qc19 aa.out 4).trans rfl⟩ (fun hHeld => ?_)
      clear hK K
      refine norm_ (a' := ?_) ?_ ?_
      rotate_left
      ·show Act.put _ (some 51) _ = _
       simp only [Act.put, qa_, qb_, qc_, i64_w, i32_w]
       rfl
      refine pure_ (i := 8) (N := some 52) (v := ?_) (a' := ?_) m19_10 rfl rfl (any_of HT_.out (by kernel_rfl)) (fun _ _ _ h => h) (Or.inl ⟨by rfl, ?_⟩) ?_ ?_
      rotate_left
      ·intro w'
       go_simp
       with_reducible rfl
      rotate_left
      ·simp only [Act.put, qa_, qb_, qc_, i64_w, i32_w]
       rfl
      refine last_ (i := 9) (N := none) m19_11 rfl rfl (one_of HT_.out (by kernel_rfl)) (by decide) (fun K hK => ?_)
      have hs70 := bq19_ aa.out 2 rfl
      have hfs70 := qb19 aa.out 2
      have jE := ak.out
      have kr := ar.out
      refine skip_ (w1 := ?_) (by rfl) rfl ?_ ?_
      rotate_left
      ·go_simp
       rfl
      refine hK.out _ _ ?_
      clear hK K
      refine done_ (done_of HT_.out (by kernel_rfl)) ?_
      have jI := bq19_ aa.out 0 rfl
      have km := bq19_ aa.out 1 rfl
      have jm := bq19_ aa.out 2 rfl
      have kh := bq19_ aa.out 3 rfl
      have kM := bq19_ aa.out 4 rfl
      have h7 := qb19 aa.out 0
      have ky := qb19 aa.out 1
      have h0 := qb19 aa.out 2
      have h5 := qb19 aa.out 3
      have kj := qb19 aa.out 4
      have hnb72 := am.out
      have hnc72 := ap.out
      have j8 := bq19_ ab.out 0 rfl
      have ko := bq19_ ab.out 1 rfl
      have jJ := bq19_ ab.out 2 rfl
      have hN := bq19_ ab.out 3 rfl
      have h6 := bq19_ ab.out 4 rfl
      have kI := qb19 ab.out 0
      have h3 := qb19 ab.out 1
      have h2 := qb19 ab.out 2
      have jL := qb19 ab.out 3
      have jC := qb19 ab.out 4
      try go_wp2
      refine bodyPost_ret (results_cell_row rfl _ _ ad 26 #[.slice aI ah.length aK, .int .i64 ai, .int .i64 (rd y316 ba), .slice a4 af.length a5, .int .i64 al] (0, 0) _ rfl (by (with_reducible repeat (first | apply qo19 | apply qm19 | apply qj19)); refine blk_put (cs := #[.slice aI ah.length aK, .int .i64 ai, .int .i64 (rd y316 ba), .slice a4 af.length a5, .int .i64 0]) ?_ 4 _ rfl; refine blk_put (cs := #[.slice aI ah.length aK, .int .i64 ai, .int .i64 (rd y316 ba), .slice none 0 0, .int .i64 0]) ?_ 3 _ rfl; refine blk_put (cs := #[.slice aI ah.length aK, .int .i64 ai, .int .i64 0, .slice none 0 0, .int .i64 0]) ?_ 2 _ rfl; refine blk_put (cs := #[.slice aI ah.length aK, .int .i64 0, .int .i64 0, .slice none 0 0, .int .i64 0]) ?_ 1 _ rfl; refine blk_put (cs := #[.slice none 0 0, .int .i64 0, .int .i64 0, .slice none 0 0, .int .i64 0]) ?_ 0 _ rfl; refine blk_far ?_ ak.out _; (with_reducible repeat (first | apply qo19 | apply qm19 | apply qj19)); exact ab.out) Tryd.underlying26 rfl (by kernel_rfl)) rfl ?_
      exact ⟨_, _, by first | rfl | (simp [errW_none, errW_some] <;> rfl) | (simp [*, errW_none, errW_some] <;> rfl), by (with_reducible repeat (first | apply Kd.R_alloc | apply Kd.R_drewN | apply Kd.R_drew)); exact qk19 (qf19 (p := ⟨ad, 4, none⟩) (qf19 (p := ⟨ad, 3, none⟩) (qf19 (p := ⟨ad, 2, none⟩) (qf19 (p := ⟨ad, 1, none⟩) (qf19 (p := ⟨ad, 0, none⟩) (qf19 (p := ⟨ac, 2, none⟩) (Kd.R_types (Kd.R_types ag.out aa.out (by decide)) ab.out (by decide)) (fun _ hk => hk.1.2) (.int .i64 (rd y316 ba))) (fun _ hk => hk.2) (.slice aI ah.length aK)) (fun _ hk => hk.2) (.int .i64 ai)) (fun _ hk => hk.2) (.int .i64 (rd y316 ba))) (fun _ hk => hk.2) (.slice a4 af.length a5)) (fun _ hk => hk.2) (.int .i64 al)) (fun _ hk => trivial), by (with_reducible repeat (first | apply Kd.S_alloc | apply Kd.S_drewN | apply Kd.S_drew)); exact qq19 (qg19 (p := ⟨ad, 4, none⟩) (qg19 (p := ⟨ad, 3, none⟩) (qg19 (p := ⟨ad, 2, none⟩) (qg19 (p := ⟨ad, 1, none⟩) (qg19 (p := ⟨ad, 0, none⟩) (qg19 (p := ⟨ac, 2, none⟩) (Kd.S_types (Kd.S_types ae.out aa.out (by decide)) ab.out (by decide)) (fun _ hk => hk.1.2) (.int .i64 (rd y316 ba))) (fun _ hk => hk.2) (.slice aI ah.length aK)) (fun _ hk => hk.2) (.int .i64 ai)) (fun _ hk => hk.2) (.int .i64 (rd y316 ba))) (fun _ hk => hk.2) (.slice a4 af.length a5)) (fun _ hk => hk.2) (.int .i64 al)) (fun _ hk => trivial), by repeat (first | (with_reducible first | exact HI0.out | apply qv19 | apply qw19 | apply qu19 | apply qx19 | refine qi19 ?_ ap.out _ | refine qi19 ?_ an.out _) | exact HI0.out), by repeat (first | (with_reducible first | exact HB.out | apply below_alloc | apply qC19 | apply qD19 | refine qn19 ?_ (IsS71.ge HI0.out) | refine qn19 ?_ aH.out | refine qn19 ?_ aG.out) | exact HB.out), by repeat (first | (with_reducible first | exact HK.out | apply qE19 | apply keep_drewN | apply keep_drew | apply keep_alloc | refine qz19 ?_ aC.out _ | refine qz19 ?_ aD.out _) | exact HK.out)⟩
     ·rw [if_neg c50] at H
      exact absurd H (by simp)
    ·rw [if_neg c49] at H
     exact absurd H (by simp)
   ·rw [if_neg c47] at H
    have fr : (aE == 1) = false := beq_eq_false_iff_ne.mpr c47
    have fD : (aE != 1) = true := bne_iff_ne.mpr c47
    by_cases c74 : aE = 2
    ·rw [if_pos c74] at H
     have fM : (aE == 2) = true := beq_iff_eq.mpr c74
     have fo : (aE != 2) = false := bne_eq_false_iff_eq.mpr c74
     clear c74
     obtain ⟨y322, bW⟩ : ∃ y_ : List Int, y_ = (([(-1), 4] : List Int)) := ⟨_, rfl⟩
     replace H : ((spec_l20Rd_pick.f k s0_0 av 2).bind fun bt325 => (if 0 ≤ bt325.1 then (if bt325.1 < (y322.length : Int) then (some (ah, ai, aj, af, rd y322 bt325.1, bt325.2)) else (none)) else (none))) = some (r1, r2, r3, r4, r5, r6) := by first | (rw [bW]; with_reducible exact H) | (have H2_ := (Option.bind_some _ _).symm.trans H; rw [bW]; with_reducible exact H2_) | (have H2_ := (Option.bind_some _ _).symm.trans H; with_reducible exact H2_) | with_reducible exact H | (rw [bW]; exact H) | exact H
     have eH := qa19 bW
     clear bW
     replace H := Option.bind_eq_some_iff.mp H
     obtain ⟨⟨bj, gE⟩, eZ, H⟩ := H
     (try dsimp only at H)
     have A75 := qa19 eZ
     clear eZ
     by_cases c76 : 0 ≤ bj
     ·rw [if_pos c76] at H
      have c76b0 : decide (0 ≤ bj) = true := decide_eq_true c76
      clear c76
      by_cases c77 : bj < (y322.length : Int)
      ·rw [if_pos c77] at H
       have c77b0 : decide (bj < (y322.length : Int)) = true := decide_eq_true c77
       clear c77
       simp only [Option.some.injEq, Prod.mk.injEq] at H
       obtain ⟨rfl, rfl, rfl, rfl, rfl, rfl⟩ := H
       go_enter Tryd.func19, Tryd.ntmps19
       go_wp2_with (first | ((with_reducible refine gate_dst (N := 4) rfl ?_); refine box_event ?hg (N := 4) ?hd (cs := #[.slice none 0 0, .int .i64 0, .int .i64 0, .slice none 0 0, .int .i64 0]) (t := 26) ?hr ?_; (case hd => rfl); (case hg => rfl); (case hr => go_simp <;> rfl); intro ad hg w78 hbox hb; have n0_ := qa19 (qB19 HI0.out hb); have n1_ := qa19 (qd19 HK.out (qt19 hb g none) (.inl rfl)); have n2_ := qa19 (qF19 HB.out hb); have n3_ := qa19 (hbox); have n4_ := qa19 ((by rw [hg]; exact (keep_size (w := w) (g := g) (row := none) HK.out) : w.heap.size ≤ ad)); have n5_ := qa19 (Nat.le_trans HW0.out n4_.out); have n6_ := qa19 ((by rw [hg]; exact Nat.ne_of_lt (IsS71.lt (show IsS71 w0 _ g s0_0 s0_1 from HI0.out)) : g ≠ ad)); have n7_ := qa19 (Ne.symm n6_.out); replace HI0 := n0_; replace HK := n1_; replace HB := n2_; have ab := n3_; have aC := n4_; have aH := n5_; have ap := n6_; have am := n7_; clear n0_ n1_ n2_ n3_ n4_ n5_ n6_ n7_; clear hb hbox hg) | ((with_reducible refine gate_callee (f := 40) rfl ?_); refine goesL_ (some 8) rfl rfl Tryd.func40 (by kernel_rfl) rfl #[.pointer (some ⟨g, 0, none⟩)] rfl (by (try simp only [qh19, ql19, qp19]) <;> rfl) ?_; (with_reducible refine (spec_l20Table.calls k g s0_0 s0_1 ah ai aj af al ax w0 _ ?side1 ?side2 A3.out).mono ?_); (case side1 => exact HI0.out); (case side2 => exact HB.out); rintro e w79 ⟨b2, b4, rfl, ho0, ho1, hi, hb, hk⟩; refine ⟨_, rfl, ?_⟩; have n0_ := qa19 (qe19 hk (g' := ad) (o := .cells #[.slice none 0 0, .int .i64 0, .int .i64 0, .slice none 0 0, .int .i64 0] 26 (0, 0)) ab.out am.out (by simp)); have n1_ := qa19 (Kd.R_lower ho0 (keep_size (w := w) (g := g) (row := none) HK.out)); have n2_ := qa19 (Kd.S_lower ho1 (keep_size (w := w) (g := g) (row := none) HK.out)); have n3_ := qa19 (qd19 HK.out hk (.inl rfl)); have n4_ := qa19 (hb); have n5_ := qa19 (hi); replace ab := n0_; have ag := n1_; have ae := n2_; replace HK := n3_; replace HB := n4_; replace HI0 := n5_; clear n0_ n1_ n2_ n3_ n4_ n5_; (try clear hb hk hi); (try clear ho0); (try clear ho1)) | ((with_reducible refine gate_dst (N := 5) rfl ?_); refine box_event ?hg (N := 5) ?hd (cs := #[.slice none 0 0, .int .i64 0, .int .i64 0, .slice none 0 0, .int .i64 0]) (t := 26) ?hr ?_; (case hd => rfl); (case hg => rfl); (case hr => go_simp <;> rfl); intro ac hg w80 hbox hb; have n0_ := qa19 (Kd.R_below ag.out hb); have n1_ := qa19 (Kd.S_below ae.out hb); have n2_ := qa19 (qB19 HI0.out hb); have n3_ := qa19 (blk_below (g := ad) (o := .cells #[.slice none 0 0, .int .i64 0, .int .i64 0, .slice none 0 0, .int .i64 0] 26 (0, 0)) ab.out hb); have n4_ := qa19 (qd19 HK.out (qt19 hb g none) (.inl rfl)); have n5_ := qa19 (qF19 HB.out hb); have n6_ := qa19 (hbox); have n7_ := qa19 ((by rw [hg]; exact (keep_size (w := w) (g := g) (row := none) HK.out) : w.heap.size ≤ ac)); have n8_ := qa19 (Nat.le_trans HW0.out n7_.out); have n9_ := qa19 ((by rw [hg]; exact Nat.ne_of_lt (blk_lt (g := ad) (o := .cells #[.slice none 0 0, .int .i64 0, .int .i64 0, .slice none 0 0, .int .i64 0] 26 (0, 0)) ab.out) : ad ≠ ac)); have a9 := qa19 (Ne.symm n9_.out); have aM := qa19 ((by rw [hg]; exact Nat.ne_of_lt (IsS71.lt (show IsS71 w0 _ g s0_0 ax from HI0.out)) : g ≠ ac)); have a7 := qa19 (Ne.symm aM.out); replace ag := n0_; replace ae := n1_; replace HI0 := n2_; replace ab := n3_; replace HK := n4_; replace HB := n5_; have aa := n6_; have aD := n7_; have aG := n8_; have ak := n9_; have ar := a9; have an := aM; have ao := a7; clear n0_ n1_ n2_ n3_ n4_ n5_ n6_ n7_ n8_ n9_ a9 aM a7; clear hb hbox hg; obtain ⟨bc, bd, gs⟩ := Kd.R_slice ag.out; subst gs; have hnb82 := ar.out; have hnc82 := ak.out; have hnb83 := ao.out; have hnc83 := an.out; have lk := bq19_ aa.out 0 rfl; have k7 := bq19_ aa.out 1 rfl; have js := bq19_ aa.out 2 rfl; have jz := bq19_ aa.out 3 rfl; have jb := bq19_ aa.out 4 rfl; have kl := qb19 aa.out 0; have kS := qb19 aa.out 1; have jT := qb19 aa.out 2; have jX := qb19 aa.out 3; have jx := qb19 aa.out 4; obtain ⟨bn, bo, hq⟩ := Kd.S_slice ae.out; subst hq) | ((with_reducible refine gate_callee (f := 34) rfl ?_); refine goesL_ (some 11) rfl rfl Tryd.func34 (by kernel_rfl) rfl #[.pointer (some ⟨g, 0, none⟩), .int .i64 a1] rfl (by (try simp only [qh19, ql19, qp19]) <;> rfl) ?_; (with_reducible refine (spec_l20Rd_pick.calls k g s0_0 ax a1 bu aX w0 _ ?side1 ?side2 A4.out).mono ?_); (case side1 => repeat (first | (with_reducible first | exact HI0.out | apply qv19 | apply qw19 | apply qu19 | apply qx19 | refine qi19 ?_ ap.out _ | refine qi19 ?_ an.out _) | exact HI0.out)); (case side2 => repeat (first | (with_reducible first | exact HB.out | apply below_alloc | apply qC19 | apply qD19 | refine qn19 ?_ (IsS71.ge HI0.out) | refine qn19 ?_ aH.out | refine qn19 ?_ aG.out) | exact HB.out)); rintro e w86 ⟨rfl, hi, hb, hk⟩; refine ⟨_, rfl, ?_⟩; have n0_ := qa19 (qe19 hk (g' := ad) (o := .cells #[.slice none 0 0, .int .i64 0, .int .i64 0, .slice none 0 0, .int .i64 0] 26 (0, 0)) (by (with_reducible repeat (first | apply qo19 | apply qm19 | apply qj19)); refine blk_far ?_ ak.out _; refine blk_far ?_ ak.out _; refine blk_far ?_ ak.out _; refine blk_far ?_ ak.out _; refine blk_far ?_ ak.out _; (with_reducible repeat (first | apply qo19 | apply qm19 | apply qj19)); exact ab.out) am.out (by simp)); have n1_ := qa19 (qk19 (qy19 (qr19 (show IsS71 w0 _ g s0_0 ax from by repeat (first | (with_reducible first | exact HI0.out | apply qv19 | apply qw19 | apply qu19 | apply qx19 | refine qi19 ?_ ap.out _ | refine qi19 ?_ an.out _) | exact HI0.out)) (by (with_reducible repeat (first | apply Kd.R_alloc | apply Kd.R_drewN | apply Kd.R_drew)); exact (qk19 (qf19 (p := ⟨ac, 4, none⟩) (qf19 (p := ⟨ac, 3, none⟩) (qf19 (p := ⟨ac, 2, none⟩) (qf19 (p := ⟨ac, 1, none⟩) (qf19 (p := ⟨ac, 0, none⟩) (Kd.R_types ag.out aa.out (by decide)) (fun _ hk => hk.2) (.slice bc ah.length bd)) (fun _ hk => hk.2) (.int .i64 ai)) (fun _ hk => hk.2) (.int .i64 aj)) (fun _ hk => hk.2) (.slice bn af.length bo)) (fun _ hk => hk.2) (.int .i64 al)) (fun _ h_ => h_.1))) (by decide)) hk (fun _ h => h.2)) (fun _ h => h.1)); have n2_ := qa19 (qq19 (qA19 (qs19 (show IsS71 w0 _ g s0_0 ax from by repeat (first | (with_reducible first | exact HI0.out | apply qv19 | apply qw19 | apply qu19 | apply qx19 | refine qi19 ?_ ap.out _ | refine qi19 ?_ an.out _) | exact HI0.out)) (by (with_reducible repeat (first | apply Kd.S_alloc | apply Kd.S_drewN | apply Kd.S_drew)); exact (qq19 (qg19 (p := ⟨ac, 4, none⟩) (qg19 (p := ⟨ac, 3, none⟩) (qg19 (p := ⟨ac, 2, none⟩) (qg19 (p := ⟨ac, 1, none⟩) (qg19 (p := ⟨ac, 0, none⟩) (Kd.S_types ae.out aa.out (by decide)) (fun _ hk => hk.2) (.slice bc ah.length bd)) (fun _ hk => hk.2) (.int .i64 ai)) (fun _ hk => hk.2) (.int .i64 aj)) (fun _ hk => hk.2) (.slice bn af.length bo)) (fun _ hk => hk.2) (.int .i64 al)) (fun _ h_ => h_.1))) (by decide)) hk (fun _ h => h.2)) (fun _ h => h.1)); have n3_ := qa19 (qe19 hk (g' := ac) (o := .cells #[.slice bc ah.length bd, .int .i64 ai, .int .i64 aj, .slice bn af.length bo, .int .i64 al] 26 (0, 0)) (by (with_reducible repeat (first | apply qo19 | apply qm19 | apply qj19)); refine blk_put (cs := #[.slice bc ah.length bd, .int .i64 ai, .int .i64 aj, .slice bn af.length bo, .int .i64 0]) ?_ 4 _ rfl; refine blk_put (cs := #[.slice bc ah.length bd, .int .i64 ai, .int .i64 aj, .slice none 0 0, .int .i64 0]) ?_ 3 _ rfl; refine blk_put (cs := #[.slice bc ah.length bd, .int .i64 ai, .int .i64 0, .slice none 0 0, .int .i64 0]) ?_ 2 _ rfl; refine blk_put (cs := #[.slice bc ah.length bd, .int .i64 0, .int .i64 0, .slice none 0 0, .int .i64 0]) ?_ 1 _ rfl; refine blk_put (cs := #[.slice none 0 0, .int .i64 0, .int .i64 0, .slice none 0 0, .int .i64 0]) ?_ 0 _ rfl; (with_reducible repeat (first | apply qo19 | apply qm19 | apply qj19)); exact aa.out) ao.out (by simp)); have n4_ := qa19 (qd19 (by repeat (first | (with_reducible first | exact HK.out | apply qE19 | apply keep_drewN | apply keep_drew | apply keep_alloc | refine qz19 ?_ aC.out _ | refine qz19 ?_ aD.out _) | exact HK.out)) hk (.inl rfl)); have n5_ := qa19 (hb); have n6_ := qa19 (hi); replace ab := n0_; replace ag := n1_; replace ae := n2_; replace aa := n3_; replace HK := n4_; replace HB := n5_; replace HI0 := n6_; clear n0_ n1_ n2_ n3_ n4_ n5_ n6_; (try clear hb hk hi); have h9 := bq19_ aa.out 0 rfl; have jN := bq19_ aa.out 1 rfl; have kw := bq19_ aa.out 2 rfl; have kf := bq19_ aa.out 3 rfl; have hT := bq19_ aa.out 4 rfl; have ks := qb19 aa.out 0; have h8 := qb19 aa.out 1; have jv := qb19 aa.out 2; have j2 := qb19 aa.out 3; have kc := qb19 aa.out 4) | ((with_reducible refine gate_callee (f := 34) rfl ?_); refine goesL_ (some 18) rfl rfl Tryd.func34 (by kernel_rfl) rfl #[.pointer (some ⟨g, 0, none⟩), .int .i64 (af.length : Int)] rfl (by (try simp only [qh19, ql19, qp19]) <;> rfl) ?_; (with_reducible refine (spec_l20Rd_pick.calls k g s0_0 aX (af.length : Int) aq aY w0 _ ?side1 ?side2 A18.out).mono ?_); (case side1 => exact HI0.out); (case side2 => exact HB.out); rintro e w88 ⟨rfl, hi, hb, hk⟩; refine ⟨_, rfl, ?_⟩; have n0_ := qa19 (qe19 hk (g' := ad) (o := .cells #[.slice none 0 0, .int .i64 0, .int .i64 0, .slice none 0 0, .int .i64 0] 26 (0, 0)) ab.out am.out (by simp)); have n1_ := qa19 (qk19 (qy19 (qr19 (show IsS71 w0 _ g s0_0 aX from HI0.out) ag.out (by decide)) hk (fun _ h => h.2)) (fun _ h => h.1)); have n2_ := qa19 (qq19 (qA19 (qs19 (show IsS71 w0 _ g s0_0 aX from HI0.out) ae.out (by decide)) hk (fun _ h => h.2)) (fun _ h => h.1)); have n3_ := qa19 (qe19 hk (g' := ac) (o := .cells #[.slice bc ah.length bd, .int .i64 ai, .int .i64 aj, .slice bn af.length bo, .int .i64 al] 26 (0, 0)) aa.out ao.out (by simp)); have n4_ := qa19 (qd19 HK.out hk (.inl rfl)); have n5_ := qa19 (hb); have n6_ := qa19 (hi); replace ab := n0_; replace ag := n1_; replace ae := n2_; replace aa := n3_; replace HK := n4_; replace HB := n5_; replace HI0 := n6_; clear n0_ n1_ n2_ n3_ n4_ n5_ n6_; (try clear hb hk hi)) | ((with_reducible refine gate_callee (f := 34) rfl ?_); refine goesL_ (some 20) rfl rfl Tryd.func34 (by kernel_rfl) rfl #[.pointer (some ⟨g, 0, none⟩), .int .i64 6] rfl (by (try simp only [qh19, ql19, qp19]) <;> rfl) ?_; (with_reducible refine (spec_l20Rd_pick.calls k g s0_0 aY 6 aE av w0 _ ?side1 ?side2 A19.out).mono ?_); (case side1 => exact HI0.out); (case side2 => exact HB.out); rintro e w89 ⟨rfl, hi, hb, hk⟩; refine ⟨_, rfl, ?_⟩; have n0_ := qa19 (qe19 hk (g' := ad) (o := .cells #[.slice none 0 0, .int .i64 0, .int .i64 0, .slice none 0 0, .int .i64 0] 26 (0, 0)) ab.out am.out (by simp)); have n1_ := qa19 (qk19 (qy19 (qr19 (show IsS71 w0 _ g s0_0 aY from HI0.out) ag.out (by decide)) hk (fun _ h => h.2)) (fun _ h => h.1)); have n2_ := qa19 (qq19 (qA19 (qs19 (show IsS71 w0 _ g s0_0 aY from HI0.out) ae.out (by decide)) hk (fun _ h => h.2)) (fun _ h => h.1)); have n3_ := qa19 (qe19 hk (g' := ac) (o := .cells #[.slice bc ah.length bd, .int .i64 ai, .int .i64 aj, .slice bn af.length bo, .int .i64 al] 26 (0, 0)) aa.out ao.out (by simp)); have n4_ := qa19 (qd19 HK.out hk (.inl rfl)); have n5_ := qa19 (hb); have n6_ := qa19 (hi); replace ab := n0_; replace ag := n1_; replace ae := n2_; replace aa := n3_; replace HK := n4_; replace HB := n5_; replace HI0 := n6_; clear n0_ n1_ n2_ n3_ n4_ n5_ n6_; (try clear hb hk hi)) | ((with_reducible refine gate_dst (N := 55) rfl ?_); refine Kd.R_lit (Kd.int .i64) _ 3 ?hg (N := 55) ?hd (xs := ([(-1), 4] : List Int)) (inner := [.int .i64 (-1), .int .i64 4]) (ok := fun _ => True) (okp := fun _ => True) ?hr ?hp (fun _ hk => hk) trivial (Below.refl _ _) (Nat.le_refl _) (by simp) ?_; (case hd => rfl); (case hg => rfl); (case hr => go_simp <;> rfl); (case hp => exact (Reps.one (show Kd.M (Kd.int .i64) _ _ _ (-1) [.int .i64 (-1)] from rfl) (Reps.one (show Kd.M (Kd.int .i64) _ _ _ 4 [.int .i64 4] from rfl) (Reps.none _ _)))); intro v323 w90 cd hb hg_ hnew_; clear hg_ hnew_; (first | rw [← eH.out] at cd | (simp only [Int.reduceToNat] at cd; rw [← eH.out] at cd)); have n0_ := qa19 (Kd.R_below ag.out hb); have n1_ := qa19 (Kd.S_below ae.out hb); have n2_ := qa19 (Kd.R_lower cd (keep_size (w := w) (g := g) (row := none) HK.out)); have n3_ := qa19 (qB19 HI0.out hb); have n4_ := qa19 (blk_below (g := ad) (o := .cells #[.slice none 0 0, .int .i64 0, .int .i64 0, .slice none 0 0, .int .i64 0] 26 (0, 0)) ab.out hb); have n5_ := qa19 (blk_below (g := ac) (o := .cells #[.slice bc ah.length bd, .int .i64 ai, .int .i64 aj, .slice bn af.length bo, .int .i64 al] 26 (0, 0)) aa.out hb); have n6_ := qa19 (qd19 HK.out (qt19 hb g none) (.inl rfl)); have n7_ := qa19 (qF19 HB.out hb); replace ag := n0_; replace ae := n1_; have b8 := n2_; replace HI0 := n3_; replace ab := n4_; replace aa := n5_; replace HK := n6_; replace HB := n7_; clear n0_ n1_ n2_ n3_ n4_ n5_ n6_ n7_; clear hb cd) | ((with_reducible refine gate_callee (f := 34) rfl ?_); refine goesL_ (some 57) rfl rfl Tryd.func34 (by kernel_rfl) rfl #[.pointer (some ⟨g, 0, none⟩), .int .i64 2] rfl (by (try simp only [qh19, ql19, qp19]) <;> rfl) ?_; (with_reducible refine (spec_l20Rd_pick.calls k g s0_0 av 2 bj gE w0 _ ?side1 ?side2 A75.out).mono ?_); (case side1 => exact HI0.out); (case side2 => exact HB.out); rintro e w92 ⟨rfl, hi, hb, hk⟩; refine ⟨_, rfl, ?_⟩; have n0_ := qa19 (qe19 hk (g' := ad) (o := .cells #[.slice none 0 0, .int .i64 0, .int .i64 0, .slice none 0 0, .int .i64 0] 26 (0, 0)) ab.out am.out (by simp)); have n1_ := qa19 (qk19 (qy19 (qr19 (show IsS71 w0 _ g s0_0 av from HI0.out) ag.out (by decide)) hk (fun _ h => h.2)) (fun _ h => h.1)); have n2_ := qa19 (qq19 (qA19 (qs19 (show IsS71 w0 _ g s0_0 av from HI0.out) ae.out (by decide)) hk (fun _ h => h.2)) (fun _ h => h.1)); have n3_ := qa19 (qe19 hk (g' := ac) (o := .cells #[.slice bc ah.length bd, .int .i64 ai, .int .i64 aj, .slice bn af.length bo, .int .i64 al] 26 (0, 0)) aa.out ao.out (by simp)); have n4_ := qa19 (qk19 (qy19 (qr19 (show IsS71 w0 _ g s0_0 av from HI0.out) b8.out (by decide)) hk (fun _ h => h.2)) (fun _ h => h.1)); have n5_ := qa19 (qd19 HK.out hk (.inl rfl)); have n6_ := qa19 (hb); have n7_ := qa19 (hi); replace ab := n0_; replace ag := n1_; replace ae := n2_; replace aa := n3_; replace b8 := n4_; replace HK := n5_; replace HB := n6_; replace HI0 := n7_; clear n0_ n1_ n2_ n3_ n4_ n5_ n6_ n7_; (try clear hb hk hi); obtain ⟨Ao93, co93, gb⟩ := Kd.R_slice b8.out; subst gb; have ea : 0 ≤ (bj : Int) := of_decide_eq_true (by first | (with_reducible assumption) | assumption); have eu : bj < (y322.length : Int) := of_decide_eq_true (by first | (with_reducible assumption) | assumption); obtain ⟨ad327, gR, li⟩ := Kd.at_int (Kd.R_reads' b8.out).2.2 bj ea eu; cases gR; replace ea := eq_true ea; replace eu := eq_true eu; have lh := bq19_ aa.out 0 rfl; have j5 := bq19_ aa.out 1 rfl; have hX := bq19_ aa.out 2 rfl; have le := bq19_ aa.out 3 rfl; have kd := bq19_ aa.out 4 rfl; have j6 := qb19 aa.out 0; have kK := qb19 aa.out 1; have ji := qb19 aa.out 2; have kx := qb19 aa.out 3; have jD := qb19 aa.out 4; have hnb95 := am.out; have hnc95 := ap.out; have kW := bq19_ ab.out 0 rfl; have kZ := bq19_ ab.out 1 rfl; have j3 := bq19_ ab.out 2 rfl; have j4 := bq19_ ab.out 3 rfl; have ku := bq19_ ab.out 4 rfl; have jA := qb19 ab.out 0; have hP := qb19 ab.out 1; have lj := qb19 ab.out 2; have hV := qb19 ab.out 3; have hM := qb19 ab.out 4))
       refine bodyPost_ret (results_cell_row rfl _ _ ad 26 #[.slice bc ah.length bd, .int .i64 ai, .int .i64 aj, .slice bn af.length bo, .int .i64 (rd y322 bj)] (0, 0) _ rfl (by (with_reducible repeat (first | apply qo19 | apply qm19 | apply qj19)); refine blk_put (cs := #[.slice bc ah.length bd, .int .i64 ai, .int .i64 aj, .slice bn af.length bo, .int .i64 0]) ?_ 4 _ rfl; refine blk_put (cs := #[.slice bc ah.length bd, .int .i64 ai, .int .i64 aj, .slice none 0 0, .int .i64 0]) ?_ 3 _ rfl; refine blk_put (cs := #[.slice bc ah.length bd, .int .i64 ai, .int .i64 0, .slice none 0 0, .int .i64 0]) ?_ 2 _ rfl; refine blk_put (cs := #[.slice bc ah.length bd, .int .i64 0, .int .i64 0, .slice none 0 0, .int .i64 0]) ?_ 1 _ rfl; refine blk_put (cs := #[.slice none 0 0, .int .i64 0, .int .i64 0, .slice none 0 0, .int .i64 0]) ?_ 0 _ rfl; refine blk_far ?_ ak.out _; (with_reducible repeat (first | apply qo19 | apply qm19 | apply qj19)); exact ab.out) Tryd.underlying26 rfl (by kernel_rfl)) rfl ?_
       exact ⟨_, _, by first | rfl | (simp [errW_none, errW_some] <;> rfl) | (simp [*, errW_none, errW_some] <;> rfl), by (with_reducible repeat (first | apply Kd.R_alloc | apply Kd.R_drewN | apply Kd.R_drew)); exact qk19 (qf19 (p := ⟨ad, 4, none⟩) (qf19 (p := ⟨ad, 3, none⟩) (qf19 (p := ⟨ad, 2, none⟩) (qf19 (p := ⟨ad, 1, none⟩) (qf19 (p := ⟨ad, 0, none⟩) (qf19 (p := ⟨ac, 4, none⟩) (Kd.R_types (Kd.R_types ag.out aa.out (by decide)) ab.out (by decide)) (fun _ hk => hk.1.2) (.int .i64 (rd y322 bj))) (fun _ hk => hk.2) (.slice bc ah.length bd)) (fun _ hk => hk.2) (.int .i64 ai)) (fun _ hk => hk.2) (.int .i64 aj)) (fun _ hk => hk.2) (.slice bn af.length bo)) (fun _ hk => hk.2) (.int .i64 (rd y322 bj))) (fun _ hk => trivial), by (with_reducible repeat (first | apply Kd.S_alloc | apply Kd.S_drewN | apply Kd.S_drew)); exact qq19 (qg19 (p := ⟨ad, 4, none⟩) (qg19 (p := ⟨ad, 3, none⟩) (qg19 (p := ⟨ad, 2, none⟩) (qg19 (p := ⟨ad, 1, none⟩) (qg19 (p := ⟨ad, 0, none⟩) (qg19 (p := ⟨ac, 4, none⟩) (Kd.S_types (Kd.S_types ae.out aa.out (by decide)) ab.out (by decide)) (fun _ hk => hk.1.2) (.int .i64 (rd y322 bj))) (fun _ hk => hk.2) (.slice bc ah.length bd)) (fun _ hk => hk.2) (.int .i64 ai)) (fun _ hk => hk.2) (.int .i64 aj)) (fun _ hk => hk.2) (.slice bn af.length bo)) (fun _ hk => hk.2) (.int .i64 (rd y322 bj))) (fun _ hk => trivial), by repeat (first | (with_reducible first | exact HI0.out | apply qv19 | apply qw19 | apply qu19 | apply qx19 | refine qi19 ?_ ap.out _ | refine qi19 ?_ an.out _) | exact HI0.out), by repeat (first | (with_reducible first | exact HB.out | apply below_alloc | apply qC19 | apply qD19 | refine qn19 ?_ (IsS71.ge HI0.out) | refine qn19 ?_ aH.out | refine qn19 ?_ aG.out) | exact HB.out), by repeat (first | (with_reducible first | exact HK.out | apply qE19 | apply keep_drewN | apply keep_drew | apply keep_alloc | refine qz19 ?_ aC.out _ | refine qz19 ?_ aD.out _) | exact HK.out)⟩
      ·rw [if_neg c77] at H
       exact absurd H (by simp)
     ·rw [if_neg c76] at H
      exact absurd H (by simp)
    ·rw [if_neg c74] at H
     have fM : (aE == 2) = false := beq_eq_false_iff_ne.mpr c74
     have fo : (aE != 2) = true := bne_iff_ne.mpr c74
     by_cases c97 : aE = 3
     ·rw [if_pos c97] at H
      have eL : (aE == 3) = true := beq_iff_eq.mpr c97
      have eU : (aE != 3) = false := bne_eq_false_iff_eq.mpr c97
      clear c97
      replace H := Option.bind_eq_some_iff.mp H
      obtain ⟨⟨bC, bi⟩, fb, H⟩ := H
      (try dsimp only at H)
      have A98 := qa19 fb
      clear fb
      obtain ⟨y330, bO⟩ : ∃ y_ : List Int, y_ = (([(-1), 0, 61, 101] : List Int)) := ⟨_, rfl⟩
      replace H : ((spec_l20Rd_pick.f k s0_0 bi 4).bind fun bt333 => (if 0 ≤ bt333.1 then (if bt333.1 < (y330.length : Int) then (if ah.length < 8796093022208 then (some ((ah ++ [(⟨bC, rd y330 bt333.1⟩ : S29)]), ai, aj, af, al, bt333.2)) else (none)) else (none)) else (none))) = some (r1, r2, r3, r4, r5, r6) := by first | (rw [bO]; with_reducible exact H) | (have H2_ := (Option.bind_some _ _).symm.trans H; rw [bO]; with_reducible exact H2_) | (have H2_ := (Option.bind_some _ _).symm.trans H; with_reducible exact H2_) | with_reducible exact H | (rw [bO]; exact H) | exact H
      have bp := qa19 bO
      clear bO
      replace H := Option.bind_eq_some_iff.mp H
      obtain ⟨⟨be, b1⟩, fa, H⟩ := H
      (try dsimp only at H)
      have A99 := qa19 fa
      clear fa
      by_cases c100 : 0 ≤ be
      ·rw [if_pos c100] at H
       have lD : decide (0 ≤ be) = true := decide_eq_true c100
       clear c100
       by_cases c101 : be < (y330.length : Int)
       ·rw [if_pos c101] at H
        have lO : decide (be < (y330.length : Int)) = true := decide_eq_true c101
        clear c101
        by_cases c102 : ah.length < 8796093022208
        ·rw [if_pos c102] at H
         have e4 := qa19 c102
         clear c102
         obtain ⟨bv, bM⟩ : ∃ y_ : List (S29), y_ = (ah ++ [(⟨bC, rd y330 be⟩ : S29)]) := ⟨_, rfl⟩
         replace H : (some (bv, ai, aj, af, al, b1)) = some (r1, r2, r3, r4, r5, r6) := by first | (rw [bM]; with_reducible exact H) | (have H2_ := (Option.bind_some _ _).symm.trans H; rw [bM]; with_reducible exact H2_) | (have H2_ := (Option.bind_some _ _).symm.trans H; with_reducible exact H2_) | with_reducible exact H | (rw [bM]; exact H) | exact H
         have fv := qa19 bM
         clear bM
         simp only [Option.some.injEq, Prod.mk.injEq] at H
         obtain ⟨rfl, rfl, rfl, rfl, rfl, rfl⟩ := H
         go_enter Tryd.func19, Tryd.ntmps19
         try go_wp2_with (first | ((with_reducible refine gate_dst (N := 4) rfl ?_); refine box_event ?hg (N := 4) ?hd (cs := #[.slice none 0 0, .int .i64 0, .int .i64 0, .slice none 0 0, .int .i64 0]) (t := 26) ?hr ?_; (case hd => rfl); (case hg => rfl); (case hr => go_simp <;> rfl); intro ad hg w103 hbox hb; have n0_ := qa19 (qB19 HI0.out hb); have n1_ := qa19 (qd19 HK.out (qt19 hb g none) (.inl rfl)); have n2_ := qa19 (qF19 HB.out hb); have n3_ := qa19 (hbox); have n4_ := qa19 ((by rw [hg]; exact (keep_size (w := w) (g := g) (row := none) HK.out) : w.heap.size ≤ ad)); have n5_ := qa19 (Nat.le_trans HW0.out n4_.out); have n6_ := qa19 ((by rw [hg]; exact Nat.ne_of_lt (IsS71.lt (show IsS71 w0 _ g s0_0 s0_1 from HI0.out)) : g ≠ ad)); have n7_ := qa19 (Ne.symm n6_.out); replace HI0 := n0_; replace HK := n1_; replace HB := n2_; have ab := n3_; have aC := n4_; have aH := n5_; have ap := n6_; have am := n7_; clear n0_ n1_ n2_ n3_ n4_ n5_ n6_ n7_; clear hb hbox hg) | ((with_reducible refine gate_callee (f := 40) rfl ?_); refine goesL_ (some 8) rfl rfl Tryd.func40 (by kernel_rfl) rfl #[.pointer (some ⟨g, 0, none⟩)] rfl (by (try simp only [qh19, ql19, qp19]) <;> rfl) ?_; (with_reducible refine (spec_l20Table.calls k g s0_0 s0_1 ah ai aj af al ax w0 _ ?side1 ?side2 A3.out).mono ?_); (case side1 => exact HI0.out); (case side2 => exact HB.out); rintro e w104 ⟨b2, b4, rfl, ho0, ho1, hi, hb, hk⟩; refine ⟨_, rfl, ?_⟩; have n0_ := qa19 (qe19 hk (g' := ad) (o := .cells #[.slice none 0 0, .int .i64 0, .int .i64 0, .slice none 0 0, .int .i64 0] 26 (0, 0)) ab.out am.out (by simp)); have n1_ := qa19 (Kd.R_lower ho0 (keep_size (w := w) (g := g) (row := none) HK.out)); have n2_ := qa19 (Kd.S_lower ho1 (keep_size (w := w) (g := g) (row := none) HK.out)); have n3_ := qa19 (qd19 HK.out hk (.inl rfl)); have n4_ := qa19 (hb); have n5_ := qa19 (hi); replace ab := n0_; have ag := n1_; have ae := n2_; replace HK := n3_; replace HB := n4_; replace HI0 := n5_; clear n0_ n1_ n2_ n3_ n4_ n5_; (try clear hb hk hi); (try clear ho0); (try clear ho1)) | ((with_reducible refine gate_dst (N := 5) rfl ?_); refine box_event ?hg (N := 5) ?hd (cs := #[.slice none 0 0, .int .i64 0, .int .i64 0, .slice none 0 0, .int .i64 0]) (t := 26) ?hr ?_; (case hd => rfl); (case hg => rfl); (case hr => go_simp <;> rfl); intro ac hg w105 hbox hb; have n0_ := qa19 (Kd.R_below ag.out hb); have n1_ := qa19 (Kd.S_below ae.out hb); have n2_ := qa19 (qB19 HI0.out hb); have n3_ := qa19 (blk_below (g := ad) (o := .cells #[.slice none 0 0, .int .i64 0, .int .i64 0, .slice none 0 0, .int .i64 0] 26 (0, 0)) ab.out hb); have n4_ := qa19 (qd19 HK.out (qt19 hb g none) (.inl rfl)); have n5_ := qa19 (qF19 HB.out hb); have n6_ := qa19 (hbox); have n7_ := qa19 ((by rw [hg]; exact (keep_size (w := w) (g := g) (row := none) HK.out) : w.heap.size ≤ ac)); have n8_ := qa19 (Nat.le_trans HW0.out n7_.out); have n9_ := qa19 ((by rw [hg]; exact Nat.ne_of_lt (blk_lt (g := ad) (o := .cells #[.slice none 0 0, .int .i64 0, .int .i64 0, .slice none 0 0, .int .i64 0] 26 (0, 0)) ab.out) : ad ≠ ac)); have a9 := qa19 (Ne.symm n9_.out); have aM := qa19 ((by rw [hg]; exact Nat.ne_of_lt (IsS71.lt (show IsS71 w0 _ g s0_0 ax from HI0.out)) : g ≠ ac)); have a7 := qa19 (Ne.symm aM.out); replace ag := n0_; replace ae := n1_; replace HI0 := n2_; replace ab := n3_; replace HK := n4_; replace HB := n5_; have aa := n6_; have aD := n7_; have aG := n8_; have ak := n9_; have ar := a9; have an := aM; have ao := a7; clear n0_ n1_ n2_ n3_ n4_ n5_ n6_ n7_ n8_ n9_ a9 aM a7; clear hb hbox hg; obtain ⟨ay, az, fC⟩ := Kd.R_slice ag.out; subst fC; have lB := ar.out; have lJ := ak.out; have lz := ao.out; have lH := an.out; have gT := bq19_ aa.out 0 rfl; have gV := bq19_ aa.out 1 rfl; have hx := bq19_ aa.out 2 rfl; have gy := bq19_ aa.out 3 rfl; have gu := bq19_ aa.out 4 rfl; have g7 := qb19 aa.out 0; have hJ := qb19 aa.out 1; have f7 := qb19 aa.out 2; have gF := qb19 aa.out 3; have f5 := qb19 aa.out 4; obtain ⟨aB, aA, fJ⟩ := Kd.S_slice ae.out; subst fJ) | ((with_reducible refine gate_callee (f := 34) rfl ?_); refine goesL_ (some 11) rfl rfl Tryd.func34 (by kernel_rfl) rfl #[.pointer (some ⟨g, 0, none⟩), .int .i64 a1] rfl (by (try simp only [qh19, ql19, qp19]) <;> rfl) ?_; (with_reducible refine (spec_l20Rd_pick.calls k g s0_0 ax a1 bu aX w0 _ ?side1 ?side2 A4.out).mono ?_); (case side1 => repeat (first | (with_reducible first | exact HI0.out | apply qv19 | apply qw19 | apply qu19 | apply qx19 | refine qi19 ?_ ap.out _ | refine qi19 ?_ an.out _) | exact HI0.out)); (case side2 => repeat (first | (with_reducible first | exact HB.out | apply below_alloc | apply qC19 | apply qD19 | refine qn19 ?_ (IsS71.ge HI0.out) | refine qn19 ?_ aH.out | refine qn19 ?_ aG.out) | exact HB.out)); rintro e w111 ⟨rfl, hi, hb, hk⟩; refine ⟨_, rfl, ?_⟩; have n0_ := qa19 (qe19 hk (g' := ad) (o := .cells #[.slice none 0 0, .int .i64 0, .int .i64 0, .slice none 0 0, .int .i64 0] 26 (0, 0)) (by (with_reducible repeat (first | apply qo19 | apply qm19 | apply qj19)); refine blk_far ?_ ak.out _; refine blk_far ?_ ak.out _; refine blk_far ?_ ak.out _; refine blk_far ?_ ak.out _; refine blk_far ?_ ak.out _; (with_reducible repeat (first | apply qo19 | apply qm19 | apply qj19)); exact ab.out) am.out (by simp)); have n1_ := qa19 (qk19 (qy19 (qr19 (show IsS71 w0 _ g s0_0 ax from by repeat (first | (with_reducible first | exact HI0.out | apply qv19 | apply qw19 | apply qu19 | apply qx19 | refine qi19 ?_ ap.out _ | refine qi19 ?_ an.out _) | exact HI0.out)) (by (with_reducible repeat (first | apply Kd.R_alloc | apply Kd.R_drewN | apply Kd.R_drew)); exact (qk19 (qf19 (p := ⟨ac, 4, none⟩) (qf19 (p := ⟨ac, 3, none⟩) (qf19 (p := ⟨ac, 2, none⟩) (qf19 (p := ⟨ac, 1, none⟩) (qf19 (p := ⟨ac, 0, none⟩) (Kd.R_types ag.out aa.out (by decide)) (fun _ hk => hk.2) (.slice ay ah.length az)) (fun _ hk => hk.2) (.int .i64 ai)) (fun _ hk => hk.2) (.int .i64 aj)) (fun _ hk => hk.2) (.slice aB af.length aA)) (fun _ hk => hk.2) (.int .i64 al)) (fun _ h_ => h_.1))) (by decide)) hk (fun _ h => h.2)) (fun _ h => h.1)); have n2_ := qa19 (qq19 (qA19 (qs19 (show IsS71 w0 _ g s0_0 ax from by repeat (first | (with_reducible first | exact HI0.out | apply qv19 | apply qw19 | apply qu19 | apply qx19 | refine qi19 ?_ ap.out _ | refine qi19 ?_ an.out _) | exact HI0.out)) (by (with_reducible repeat (first | apply Kd.S_alloc | apply Kd.S_drewN | apply Kd.S_drew)); exact (qq19 (qg19 (p := ⟨ac, 4, none⟩) (qg19 (p := ⟨ac, 3, none⟩) (qg19 (p := ⟨ac, 2, none⟩) (qg19 (p := ⟨ac, 1, none⟩) (qg19 (p := ⟨ac, 0, none⟩) (Kd.S_types ae.out aa.out (by decide)) (fun _ hk => hk.2) (.slice ay ah.length az)) (fun _ hk => hk.2) (.int .i64 ai)) (fun _ hk => hk.2) (.int .i64 aj)) (fun _ hk => hk.2) (.slice aB af.length aA)) (fun _ hk => hk.2) (.int .i64 al)) (fun _ h_ => h_.1))) (by decide)) hk (fun _ h => h.2)) (fun _ h => h.1)); have n3_ := qa19 (qe19 hk (g' := ac) (o := .cells #[.slice ay ah.length az, .int .i64 ai, .int .i64 aj, .slice aB af.length aA, .int .i64 al] 26 (0, 0)) (by (with_reducible repeat (first | apply qo19 | apply qm19 | apply qj19)); refine blk_put (cs := #[.slice ay ah.length az, .int .i64 ai, .int .i64 aj, .slice aB af.length aA, .int .i64 0]) ?_ 4 _ rfl; refine blk_put (cs := #[.slice ay ah.length az, .int .i64 ai, .int .i64 aj, .slice none 0 0, .int .i64 0]) ?_ 3 _ rfl; refine blk_put (cs := #[.slice ay ah.length az, .int .i64 ai, .int .i64 0, .slice none 0 0, .int .i64 0]) ?_ 2 _ rfl; refine blk_put (cs := #[.slice ay ah.length az, .int .i64 0, .int .i64 0, .slice none 0 0, .int .i64 0]) ?_ 1 _ rfl; refine blk_put (cs := #[.slice none 0 0, .int .i64 0, .int .i64 0, .slice none 0 0, .int .i64 0]) ?_ 0 _ rfl; (with_reducible repeat (first | apply qo19 | apply qm19 | apply qj19)); exact aa.out) ao.out (by simp)); have n4_ := qa19 (qd19 (by repeat (first | (with_reducible first | exact HK.out | apply qE19 | apply keep_drewN | apply keep_drew | apply keep_alloc | refine qz19 ?_ aC.out _ | refine qz19 ?_ aD.out _) | exact HK.out)) hk (.inl rfl)); have n5_ := qa19 (hb); have n6_ := qa19 (hi); replace ab := n0_; replace ag := n1_; replace ae := n2_; replace aa := n3_; replace HK := n4_; replace HB := n5_; replace HI0 := n6_; clear n0_ n1_ n2_ n3_ n4_ n5_ n6_; (try clear hb hk hi); have gC := bq19_ aa.out 0 rfl; have hz := bq19_ aa.out 1 rfl; have f3 := bq19_ aa.out 2 rfl; have gZ := bq19_ aa.out 3 rfl; have g0 := bq19_ aa.out 4 rfl; have g6 := qb19 aa.out 0; have gI := qb19 aa.out 1; have gY := qb19 aa.out 2; have gN := qb19 aa.out 3; have g3 := qb19 aa.out 4) | ((with_reducible refine gate_callee (f := 34) rfl ?_); refine goesL_ (some 18) rfl rfl Tryd.func34 (by kernel_rfl) rfl #[.pointer (some ⟨g, 0, none⟩), .int .i64 (af.length : Int)] rfl (by (try simp only [qh19, ql19, qp19]) <;> rfl) ?_; (with_reducible refine (spec_l20Rd_pick.calls k g s0_0 aX (af.length : Int) aq aY w0 _ ?side1 ?side2 A18.out).mono ?_); (case side1 => exact HI0.out); (case side2 => exact HB.out); rintro e w113 ⟨rfl, hi, hb, hk⟩; refine ⟨_, rfl, ?_⟩; have n0_ := qa19 (qe19 hk (g' := ad) (o := .cells #[.slice none 0 0, .int .i64 0, .int .i64 0, .slice none 0 0, .int .i64 0] 26 (0, 0)) ab.out am.out (by simp)); have n1_ := qa19 (qk19 (qy19 (qr19 (show IsS71 w0 _ g s0_0 aX from HI0.out) ag.out (by decide)) hk (fun _ h => h.2)) (fun _ h => h.1)); have n2_ := qa19 (qq19 (qA19 (qs19 (show IsS71 w0 _ g s0_0 aX from HI0.out) ae.out (by decide)) hk (fun _ h => h.2)) (fun _ h => h.1)); have n3_ := qa19 (qe19 hk (g' := ac) (o := .cells #[.slice ay ah.length az, .int .i64 ai, .int .i64 aj, .slice aB af.length aA, .int .i64 al] 26 (0, 0)) aa.out ao.out (by simp)); have n4_ := qa19 (qd19 HK.out hk (.inl rfl)); have n5_ := qa19 (hb); have n6_ := qa19 (hi); replace ab := n0_; replace ag := n1_; replace ae := n2_; replace aa := n3_; replace HK := n4_; replace HB := n5_; replace HI0 := n6_; clear n0_ n1_ n2_ n3_ n4_ n5_ n6_; (try clear hb hk hi)) | ((with_reducible refine gate_callee (f := 34) rfl ?_); refine goesL_ (some 20) rfl rfl Tryd.func34 (by kernel_rfl) rfl #[.pointer (some ⟨g, 0, none⟩), .int .i64 6] rfl (by (try simp only [qh19, ql19, qp19]) <;> rfl) ?_; (with_reducible refine (spec_l20Rd_pick.calls k g s0_0 aY 6 aE av w0 _ ?side1 ?side2 A19.out).mono ?_); (case side1 => exact HI0.out); (case side2 => exact HB.out); rintro e gg ⟨rfl, hi, hb, hk⟩; refine ⟨_, rfl, ?_⟩; have n0_ := qa19 (qe19 hk (g' := ad) (o := .cells #[.slice none 0 0, .int .i64 0, .int .i64 0, .slice none 0 0, .int .i64 0] 26 (0, 0)) ab.out am.out (by simp)); have n1_ := qa19 (qk19 (qy19 (qr19 (show IsS71 w0 _ g s0_0 aY from HI0.out) ag.out (by decide)) hk (fun _ h => h.2)) (fun _ h => h.1)); have n2_ := qa19 (qq19 (qA19 (qs19 (show IsS71 w0 _ g s0_0 aY from HI0.out) ae.out (by decide)) hk (fun _ h => h.2)) (fun _ h => h.1)); have n3_ := qa19 (qe19 hk (g' := ac) (o := .cells #[.slice ay ah.length az, .int .i64 ai, .int .i64 aj, .slice aB af.length aA, .int .i64 al] 26 (0, 0)) aa.out ao.out (by simp)); have n4_ := qa19 (qd19 HK.out hk (.inl rfl)); have n5_ := qa19 (hb); have n6_ := qa19 (hi); replace ab := n0_; replace ag := n1_; replace ae := n2_; replace aa := n3_; replace HK := n4_; replace HB := n5_; replace HI0 := n6_; clear n0_ n1_ n2_ n3_ n4_ n5_ n6_; (try clear hb hk hi)))
         have pi335 : (0 ≤ (be : Int)) = True := eq_true (of_decide_eq_true (by first | (with_reducible assumption) | assumption))
         have qi335 : (be < (y330.length : Int)) = True := eq_true (of_decide_eq_true (by first | (with_reducible assumption) | assumption))
         have n0_ := qa19 (Kd.R_drew ag.out)
         have n1_ := qa19 (Kd.S_drew ae.out)
         have n2_ := qa19 (qm19 ab.out)
         have n3_ := qa19 (qm19 aa.out)
         have n4_ := qa19 (qu19 HI0.out)
         have n5_ := qa19 (keep_drew HK.out)
         have n6_ := qa19 (qD19 HB.out)
         replace ag := n0_
         replace ae := n1_
         replace ab := n2_
         replace aa := n3_
         replace HI0 := n4_
         replace HK := n5_
         replace HB := n6_
         clear n0_ n1_ n2_ n3_ n4_ n5_ n6_
         refine start_ (n := 14) (S := fun w' => w'.cell? ⟨ac, 0, none⟩ = some (.slice ay ah.length az) ∧ w'.cell? ⟨ac, 1, none⟩ = some (.int .i64 ai) ∧ w'.cell? ⟨ac, 2, none⟩ = some (.int .i64 aj) ∧ w'.cell? ⟨ac, 3, none⟩ = some (.slice aB af.length aA) ∧ w'.cell? ⟨ac, 4, none⟩ = some (.int .i64 al)) (ds := [13]) m19_12 (by kernel_rfl) rfl rfl ⟨(qc19 aa.out 0).trans rfl, (qc19 aa.out 1).trans rfl, (qc19 aa.out 2).trans rfl, (qc19 aa.out 3).trans rfl, (qc19 aa.out 4).trans rfl⟩ (fun hHeld => ?_); refine with_tabW spec_l20AnyTable.tab15 spec_l20AnyTable.bits15 (fun HT_ HW_ => ?_)
         generalize gg.drew = w115 at ag ae ab aa HI0 HK HB hHeld ⊢
         refine pure_ (i := 0) (N := some 63) (v := ?_) (a' := ?_) m19_13 rfl rfl (any_of HT_.out (by kernel_rfl)) (fun _ _ _ h => h) (Or.inl ⟨by rfl, ?_⟩) ?_ ?_
         rotate_left
         ·intro w'
          go_simp
          with_reducible rfl
         rotate_left
         ·simp only [Act.put, qa_, qb_, qc_, i64_w, i32_w]
          rfl
         refine pure_ (i := 2) (N := some 65) (v := ?_) (a' := ?_) m19_14 rfl rfl (any_of HT_.out (by kernel_rfl)) (fun _ _ _ h => h) (Or.inl ⟨by rfl, ?_⟩) ?_ ?_
         rotate_left
         ·intro w'
          go_simp
          with_reducible rfl
         rotate_left
         ·simp only [Act.put, qa_, qb_, qc_, i64_w, i32_w]
          rfl
         refine pure_ (i := 5) (N := some 68) (v := ?_) (a' := ?_) m19_15 rfl rfl (any_of HT_.out (by kernel_rfl)) (fun _ _ _ h => h) (Or.inl ⟨by rfl, ?_⟩) ?_ ?_
         rotate_left
         ·intro w'
          go_simp
          with_reducible rfl
         rotate_left
         ·simp only [Act.put, qa_, qb_, qc_, i64_w, i32_w]
          rfl
         refine take_ (i := 1) (N := some 64) (v := ?_) (a' := ?_) m19_16 rfl rfl (take_ofW HT_.out HW_.out (by kernel_rfl)) (fun _ _ _ h => h) (Or.inl ⟨by rfl, ?_⟩) hHeld ?_ ?_
         rotate_left
         ·rintro w' ⟨s0, s1, s2, s3, s4⟩
          go_simp
          with_reducible rfl
         rotate_left
         ·simp only [Act.put, qa_, qb_, qc_, i64_w, i32_w]
          rfl
         refine join_ (σ := Value × Addr) 7 m19_17 (fun s_ => [(66, .int .i64 bC), (67, s_.1), (69, .int .i64 be)]) (fun s_ w' => (w'.cell? ⟨ac, 0, none⟩ = some (.slice ay ah.length az) ∧ w'.cell? ⟨ac, 1, none⟩ = some (.int .i64 ai) ∧ w'.cell? ⟨ac, 2, none⟩ = some (.int .i64 aj) ∧ w'.cell? ⟨ac, 3, none⟩ = some (.slice aB af.length aA) ∧ w'.cell? ⟨ac, 4, none⟩ = some (.int .i64 al)) ∧ (Kd.R k29 29 w' w.heap.size (fun _ => True) (.slice ay ah.length az) ah) ∧ (Kd.S k32 32 w' w.heap.size (fun _ => True) (.slice aB af.length aA) af) ∧ (Kd.R (Kd.int .i64) 3 w' w.heap.size (fun _ => True) s_.1 y330) ∧ (∃ c_, (s_.1 : Value) = .slice (some s_.2) y330.length c_) ∧ (w'.heap[ad]? = some (.cells #[.slice none 0 0, .int .i64 0, .int .i64 0, .slice none 0 0, .int .i64 0] 26 (0, 0))) ∧ (w'.heap[ac]? = some (.cells #[.slice ay ah.length az, .int .i64 ai, .int .i64 aj, .slice aB af.length aA, .int .i64 al] 26 (0, 0))) ∧ (IsS71 w0 w' g s0_0 b1) ∧ (KeepBut w w' g none) ∧ (Below w0.heap.size w0 w')) ?_ ?_
         rotate_left
         ·intro hCont
          refine two_ (i := 3) (j := 4) (Ni := some 66) (Nj := some 67) m19_18 m19_19 rfl rfl rfl rfl (two_of HT_.out (by kernel_rfl)) (by decide) (by decide) (fun K hK => ?_) (fun K hK => ?_)
          ·skip
           refine goes_ Tryd.func34 (by kernel_rfl) rfl #[.pointer (some ⟨g, 0, none⟩), .int .i64 4] (by rfl) rfl rfl (by (try simp only [qh19, ql19, qp19]); first | done | rfl | (simp only [List.length_drop, List.length_take]; rfl)) ?_
           with_reducible refine (spec_l20Rd_pick.calls k g s0_0 av 4 bC bi w0 _ ?side1 ?side2 A98.out).mono ?_
           (case side1 => exact HI0.out)
           (case side2 => exact HB.out)
           rintro e hy ⟨rfl, hi, hb, hk⟩
           refine ⟨_, rfl, ?_⟩
           have n0_ := qa19 (qe19 hk (g' := ad) (o := .cells #[.slice none 0 0, .int .i64 0, .int .i64 0, .slice none 0 0, .int .i64 0] 26 (0, 0)) ab.out am.out (by simp))
           have n1_ := qa19 (qk19 (qy19 (qr19 (show IsS71 w0 _ g s0_0 av from HI0.out) ag.out (by decide)) hk (fun _ h => h.2)) (fun _ h => h.1))
           have n2_ := qa19 (qq19 (qA19 (qs19 (show IsS71 w0 _ g s0_0 av from HI0.out) ae.out (by decide)) hk (fun _ h => h.2)) (fun _ h => h.1))
           have n3_ := qa19 (qe19 hk (g' := ac) (o := .cells #[.slice ay ah.length az, .int .i64 ai, .int .i64 aj, .slice aB af.length aA, .int .i64 al] 26 (0, 0)) aa.out ao.out (by simp))
           have n4_ := qa19 (qd19 HK.out hk (.inl rfl))
           have n5_ := qa19 (hb)
           have n6_ := qa19 (hi)
           replace ab := n0_
           replace ag := n1_
           replace ae := n2_
           replace aa := n3_
           replace HK := n4_
           replace HB := n5_
           replace HI0 := n6_
           clear n0_ n1_ n2_ n3_ n4_ n5_ n6_
           (try clear hb)
           (try clear hb2)
           (try clear hk)
           (try clear hi)
           refine hK.out _ _ ⟨(qc19 aa.out 0).trans rfl, (qc19 aa.out 1).trans rfl, (qc19 aa.out 2).trans rfl, (qc19 aa.out 3).trans rfl, (qc19 aa.out 4).trans rfl⟩ (fun hHeld => ?_)
           clear hK K
           refine norm_ (a' := ?_) ?_ ?_
           rotate_left
           ·show Act.put _ (some 66) _ = _
            simp only [Act.put, qa_, qb_, qc_, i64_w, i32_w]
            rfl
           refine two_ (i := 4) (j := 6) (Ni := some 67) (Nj := some 69) m19_20 m19_21 rfl rfl rfl rfl (two_of HT_.out (by kernel_rfl)) (by decide) (by decide) (fun K hK => ?_) (fun K hK => ?_)
           ·skip
            refine Kd.R_lit_step (Kd.int .i64) _ 3 ?hg (N := 67) ?hd (xs := ([(-1), 0, 61, 101] : List Int)) (inner := [.int .i64 (-1), .int .i64 0, .int .i64 61, .int .i64 101]) (ok := fun _ => True) (okp := fun _ => True) ?hr ?hp (fun _ hk => hk) trivial (Below.refl _ _) (Nat.le_refl _) (by simp) ?_; (case hd => rfl); (case hg => rfl); (case hr => go_simp <;> rfl); (case hp => exact (Reps.one (show Kd.M (Kd.int .i64) _ _ _ (-1) [.int .i64 (-1)] from rfl) (Reps.one (show Kd.M (Kd.int .i64) _ _ _ 0 [.int .i64 0] from rfl) (Reps.one (show Kd.M (Kd.int .i64) _ _ _ 61 [.int .i64 61] from rfl) (Reps.one (show Kd.M (Kd.int .i64) _ _ _ 101 [.int .i64 101] from rfl) (Reps.none _ _))))))
            intro cn gt bV hb hg_ hnew_
            clear hg_ hnew_
            (first | rw [← bp.out] at bV | (simp only [Int.reduceToNat] at bV; rw [← bp.out] at bV))
            have n0_ := qa19 (Kd.R_below ag.out hb)
            have n1_ := qa19 (Kd.S_below ae.out hb)
            have n2_ := qa19 (Kd.R_lower bV (keep_size (w := w) (g := g) (row := none) HK.out))
            have n3_ := qa19 (qB19 HI0.out hb)
            have n4_ := qa19 (blk_below (g := ad) (o := .cells #[.slice none 0 0, .int .i64 0, .int .i64 0, .slice none 0 0, .int .i64 0] 26 (0, 0)) ab.out hb)
            have n5_ := qa19 (blk_below (g := ac) (o := .cells #[.slice ay ah.length az, .int .i64 ai, .int .i64 aj, .slice aB af.length aA, .int .i64 al] 26 (0, 0)) aa.out hb)
            have n6_ := qa19 (qd19 HK.out (qt19 hb g none) (.inl rfl))
            have n7_ := qa19 (qF19 HB.out hb)
            replace ag := n0_
            replace ae := n1_
            have aT := n2_
            replace HI0 := n3_
            replace ab := n4_
            replace aa := n5_
            replace HK := n6_
            replace HB := n7_
            clear n0_ n1_ n2_ n3_ n4_ n5_ n6_ n7_
            clear hb bV
            obtain ⟨Ao119, fy, fN⟩ := Kd.R_slice aT.out
            subst fN
            obtain ⟨cZ, fs, _⟩ := Kd.at_int (Kd.R_reads' aT.out).2.2 0 (by decide) (by rw [bp.out]; simp)
            cases fs
            refine hK.out _ _ ⟨(qc19 aa.out 0).trans rfl, (qc19 aa.out 1).trans rfl, (qc19 aa.out 2).trans rfl, (qc19 aa.out 3).trans rfl, (qc19 aa.out 4).trans rfl⟩ (fun hHeld => ?_)
            clear hK K
            refine norm_ (a' := ?_) ?_ ?_
            rotate_left
            ·show Act.put _ (some 67) _ = _
             simp only [Act.put, qa_, qb_, qc_, i64_w, i32_w]
             rfl
            refine one_ (i := 6) (N := some 69) m19_17 rfl rfl (one_of HT_.out (by kernel_rfl)) (by decide) (fun K hK => ?_)
            refine goes_ Tryd.func34 (by kernel_rfl) rfl #[.pointer (some ⟨g, 0, none⟩), .int .i64 4] (by rfl) rfl rfl (by (try simp only [qh19, ql19, qp19]); first | done | rfl | (simp only [List.length_drop, List.length_take]; rfl)) ?_
            with_reducible refine (spec_l20Rd_pick.calls k g s0_0 bi 4 be b1 w0 _ ?side1 ?side2 A99.out).mono ?_
            (case side1 => exact HI0.out)
            (case side2 => exact HB.out)
            rintro e hj ⟨rfl, hi, hb, hk⟩
            refine ⟨_, rfl, ?_⟩
            have n0_ := qa19 (qe19 hk (g' := ad) (o := .cells #[.slice none 0 0, .int .i64 0, .int .i64 0, .slice none 0 0, .int .i64 0] 26 (0, 0)) ab.out am.out (by simp))
            have n1_ := qa19 (qk19 (qy19 (qr19 (show IsS71 w0 _ g s0_0 bi from HI0.out) ag.out (by decide)) hk (fun _ h => h.2)) (fun _ h => h.1))
            have n2_ := qa19 (qq19 (qA19 (qs19 (show IsS71 w0 _ g s0_0 bi from HI0.out) ae.out (by decide)) hk (fun _ h => h.2)) (fun _ h => h.1))
            have n3_ := qa19 (qe19 hk (g' := ac) (o := .cells #[.slice ay ah.length az, .int .i64 ai, .int .i64 aj, .slice aB af.length aA, .int .i64 al] 26 (0, 0)) aa.out ao.out (by simp))
            have n4_ := qa19 (qk19 (qy19 (qr19 (show IsS71 w0 _ g s0_0 bi from HI0.out) aT.out (by decide)) hk (fun _ h => h.2)) (fun _ h => h.1))
            have n5_ := qa19 (qd19 HK.out hk (.inl rfl))
            have n6_ := qa19 (hb)
            have n7_ := qa19 (hi)
            replace ab := n0_
            replace ag := n1_
            replace ae := n2_
            replace aa := n3_
            replace aT := n4_
            replace HK := n5_
            replace HB := n6_
            replace HI0 := n7_
            clear n0_ n1_ n2_ n3_ n4_ n5_ n6_ n7_
            (try clear hb)
            (try clear hb2)
            (try clear hk)
            (try clear hi)
            refine hK.out _ _ ⟨(qc19 aa.out 0).trans rfl, (qc19 aa.out 1).trans rfl, (qc19 aa.out 2).trans rfl, (qc19 aa.out 3).trans rfl, (qc19 aa.out 4).trans rfl⟩ (fun hHeld => ?_)
            clear hK K
            refine norm_ (a' := ?_) ?_ ?_
            rotate_left
            ·show Act.put _ (some 69) _ = _
             simp only [Act.put, qa_, qb_, qc_, i64_w, i32_w]
             rfl
            exact norm_ (by simp only [putAll, Act.put, qa_, qb_, qc_]) (hCont (.slice (some cZ) y330.length fy, cZ) _ ⟨hHeld, ag.out, ae.out, aT.out, ⟨_, rfl⟩, ab.out, aa.out, HI0.out, HK.out, HB.out⟩)
           ·skip
            refine goes_ Tryd.func34 (by kernel_rfl) rfl #[.pointer (some ⟨g, 0, none⟩), .int .i64 4] (by rfl) rfl rfl (by (try simp only [qh19, ql19, qp19]); first | done | rfl | (simp only [List.length_drop, List.length_take]; rfl)) ?_
            with_reducible refine (spec_l20Rd_pick.calls k g s0_0 bi 4 be b1 w0 _ ?side1 ?side2 A99.out).mono ?_
            (case side1 => exact HI0.out)
            (case side2 => exact HB.out)
            rintro e gt ⟨rfl, hi, hb, hk⟩
            refine ⟨_, rfl, ?_⟩
            have n0_ := qa19 (qe19 hk (g' := ad) (o := .cells #[.slice none 0 0, .int .i64 0, .int .i64 0, .slice none 0 0, .int .i64 0] 26 (0, 0)) ab.out am.out (by simp))
            have n1_ := qa19 (qk19 (qy19 (qr19 (show IsS71 w0 _ g s0_0 bi from HI0.out) ag.out (by decide)) hk (fun _ h => h.2)) (fun _ h => h.1))
            have n2_ := qa19 (qq19 (qA19 (qs19 (show IsS71 w0 _ g s0_0 bi from HI0.out) ae.out (by decide)) hk (fun _ h => h.2)) (fun _ h => h.1))
            have n3_ := qa19 (qe19 hk (g' := ac) (o := .cells #[.slice ay ah.length az, .int .i64 ai, .int .i64 aj, .slice aB af.length aA, .int .i64 al] 26 (0, 0)) aa.out ao.out (by simp))
            have n4_ := qa19 (qd19 HK.out hk (.inl rfl))
            have n5_ := qa19 (hb)
            have n6_ := qa19 (hi)
            replace ab := n0_
            replace ag := n1_
            replace ae := n2_
            replace aa := n3_
            replace HK := n4_
            replace HB := n5_
            replace HI0 := n6_
            clear n0_ n1_ n2_ n3_ n4_ n5_ n6_
            (try clear hb)
            (try clear hb2)
            (try clear hk)
            (try clear hi)
            refine hK.out _ _ ⟨(qc19 aa.out 0).trans rfl, (qc19 aa.out 1).trans rfl, (qc19 aa.out 2).trans rfl, (qc19 aa.out 3).trans rfl, (qc19 aa.out 4).trans rfl⟩ (fun hHeld => ?_)
            clear hK K
            refine norm_ (a' := ?_) ?_ ?_
            rotate_left
            ·show Act.put _ (some 69) _ = _
             simp only [Act.put, qa_, qb_, qc_, i64_w, i32_w]
             rfl
            refine one_ (i := 4) (N := some 67) m19_17 rfl rfl (one_of HT_.out (by kernel_rfl)) (by decide) (fun K hK => ?_)
            refine Kd.R_lit_step (Kd.int .i64) _ 3 ?hg (N := 67) ?hd (xs := ([(-1), 0, 61, 101] : List Int)) (inner := [.int .i64 (-1), .int .i64 0, .int .i64 61, .int .i64 101]) (ok := fun _ => True) (okp := fun _ => True) ?hr ?hp (fun _ hk => hk) trivial (Below.refl _ _) (Nat.le_refl _) (by simp) ?_; (case hd => rfl); (case hg => rfl); (case hr => go_simp <;> rfl); (case hp => exact (Reps.one (show Kd.M (Kd.int .i64) _ _ _ (-1) [.int .i64 (-1)] from rfl) (Reps.one (show Kd.M (Kd.int .i64) _ _ _ 0 [.int .i64 0] from rfl) (Reps.one (show Kd.M (Kd.int .i64) _ _ _ 61 [.int .i64 61] from rfl) (Reps.one (show Kd.M (Kd.int .i64) _ _ _ 101 [.int .i64 101] from rfl) (Reps.none _ _))))))
            intro cn w118 bU hb hg_ hnew_
            clear hg_ hnew_
            (first | rw [← bp.out] at bU | (simp only [Int.reduceToNat] at bU; rw [← bp.out] at bU))
            have n0_ := qa19 (Kd.R_below ag.out hb)
            have n1_ := qa19 (Kd.S_below ae.out hb)
            have n2_ := qa19 (Kd.R_lower bU (keep_size (w := w) (g := g) (row := none) HK.out))
            have n3_ := qa19 (qB19 HI0.out hb)
            have n4_ := qa19 (blk_below (g := ad) (o := .cells #[.slice none 0 0, .int .i64 0, .int .i64 0, .slice none 0 0, .int .i64 0] 26 (0, 0)) ab.out hb)
            have n5_ := qa19 (blk_below (g := ac) (o := .cells #[.slice ay ah.length az, .int .i64 ai, .int .i64 aj, .slice aB af.length aA, .int .i64 al] 26 (0, 0)) aa.out hb)
            have n6_ := qa19 (qd19 HK.out (qt19 hb g none) (.inl rfl))
            have n7_ := qa19 (qF19 HB.out hb)
            replace ag := n0_
            replace ae := n1_
            have aT := n2_
            replace HI0 := n3_
            replace ab := n4_
            replace aa := n5_
            replace HK := n6_
            replace HB := n7_
            clear n0_ n1_ n2_ n3_ n4_ n5_ n6_ n7_
            clear hb bU
            obtain ⟨Ao120, fx, fF⟩ := Kd.R_slice aT.out
            subst fF
            obtain ⟨c7, fk, _⟩ := Kd.at_int (Kd.R_reads' aT.out).2.2 0 (by decide) (by rw [bp.out]; simp)
            cases fk
            refine hK.out _ _ ⟨(qc19 aa.out 0).trans rfl, (qc19 aa.out 1).trans rfl, (qc19 aa.out 2).trans rfl, (qc19 aa.out 3).trans rfl, (qc19 aa.out 4).trans rfl⟩ (fun hHeld => ?_)
            clear hK K
            refine norm_ (a' := ?_) ?_ ?_
            rotate_left
            ·show Act.put _ (some 67) _ = _
             simp only [Act.put, qa_, qb_, qc_, i64_w, i32_w]
             rfl
            exact norm_ (by simp only [putAll, Act.put, qa_, qb_, qc_]) (hCont (.slice (some c7) y330.length fx, c7) _ ⟨hHeld, ag.out, ae.out, aT.out, ⟨_, rfl⟩, ab.out, aa.out, HI0.out, HK.out, HB.out⟩)
          ·skip
           refine Kd.R_lit_step (Kd.int .i64) _ 3 ?hg (N := 67) ?hd (xs := ([(-1), 0, 61, 101] : List Int)) (inner := [.int .i64 (-1), .int .i64 0, .int .i64 61, .int .i64 101]) (ok := fun _ => True) (okp := fun _ => True) ?hr ?hp (fun _ hk => hk) trivial (Below.refl _ _) (Nat.le_refl _) (by simp) ?_; (case hd => rfl); (case hg => rfl); (case hr => go_simp <;> rfl); (case hp => exact (Reps.one (show Kd.M (Kd.int .i64) _ _ _ (-1) [.int .i64 (-1)] from rfl) (Reps.one (show Kd.M (Kd.int .i64) _ _ _ 0 [.int .i64 0] from rfl) (Reps.one (show Kd.M (Kd.int .i64) _ _ _ 61 [.int .i64 61] from rfl) (Reps.one (show Kd.M (Kd.int .i64) _ _ _ 101 [.int .i64 101] from rfl) (Reps.none _ _))))))
           intro cn hy bT hb hg_ hnew_
           clear hg_ hnew_
           (first | rw [← bp.out] at bT | (simp only [Int.reduceToNat] at bT; rw [← bp.out] at bT))
           have n0_ := qa19 (Kd.R_below ag.out hb)
           have n1_ := qa19 (Kd.S_below ae.out hb)
           have n2_ := qa19 (Kd.R_lower bT (keep_size (w := w) (g := g) (row := none) HK.out))
           have n3_ := qa19 (qB19 HI0.out hb)
           have n4_ := qa19 (blk_below (g := ad) (o := .cells #[.slice none 0 0, .int .i64 0, .int .i64 0, .slice none 0 0, .int .i64 0] 26 (0, 0)) ab.out hb)
           have n5_ := qa19 (blk_below (g := ac) (o := .cells #[.slice ay ah.length az, .int .i64 ai, .int .i64 aj, .slice aB af.length aA, .int .i64 al] 26 (0, 0)) aa.out hb)
           have n6_ := qa19 (qd19 HK.out (qt19 hb g none) (.inl rfl))
           have n7_ := qa19 (qF19 HB.out hb)
           replace ag := n0_
           replace ae := n1_
           have aT := n2_
           replace HI0 := n3_
           replace ab := n4_
           replace aa := n5_
           replace HK := n6_
           replace HB := n7_
           clear n0_ n1_ n2_ n3_ n4_ n5_ n6_ n7_
           clear hb bT
           obtain ⟨Ao118, fB, fQ⟩ := Kd.R_slice aT.out
           subst fQ
           obtain ⟨db, fu, _⟩ := Kd.at_int (Kd.R_reads' aT.out).2.2 0 (by decide) (by rw [bp.out]; simp)
           cases fu
           refine hK.out _ _ ⟨(qc19 aa.out 0).trans rfl, (qc19 aa.out 1).trans rfl, (qc19 aa.out 2).trans rfl, (qc19 aa.out 3).trans rfl, (qc19 aa.out 4).trans rfl⟩ (fun hHeld => ?_)
           clear hK K
           refine norm_ (a' := ?_) ?_ ?_
           rotate_left
           ·show Act.put _ (some 67) _ = _
            simp only [Act.put, qa_, qb_, qc_, i64_w, i32_w]
            rfl
           refine one_ (i := 3) (N := some 66) m19_20 rfl rfl (one_of HT_.out (by kernel_rfl)) (by decide) (fun K hK => ?_)
           refine goes_ Tryd.func34 (by kernel_rfl) rfl #[.pointer (some ⟨g, 0, none⟩), .int .i64 4] (by rfl) rfl rfl (by (try simp only [qh19, ql19, qp19]); first | done | rfl | (simp only [List.length_drop, List.length_take]; rfl)) ?_
           with_reducible refine (spec_l20Rd_pick.calls k g s0_0 av 4 bC bi w0 _ ?side1 ?side2 A98.out).mono ?_
           (case side1 => exact HI0.out)
           (case side2 => exact HB.out)
           rintro e w119 ⟨rfl, hi, hb, hk⟩
           refine ⟨_, rfl, ?_⟩
           have n0_ := qa19 (qe19 hk (g' := ad) (o := .cells #[.slice none 0 0, .int .i64 0, .int .i64 0, .slice none 0 0, .int .i64 0] 26 (0, 0)) ab.out am.out (by simp))
           have n1_ := qa19 (qk19 (qy19 (qr19 (show IsS71 w0 _ g s0_0 av from HI0.out) ag.out (by decide)) hk (fun _ h => h.2)) (fun _ h => h.1))
           have n2_ := qa19 (qq19 (qA19 (qs19 (show IsS71 w0 _ g s0_0 av from HI0.out) ae.out (by decide)) hk (fun _ h => h.2)) (fun _ h => h.1))
           have n3_ := qa19 (qe19 hk (g' := ac) (o := .cells #[.slice ay ah.length az, .int .i64 ai, .int .i64 aj, .slice aB af.length aA, .int .i64 al] 26 (0, 0)) aa.out ao.out (by simp))
           have n4_ := qa19 (qk19 (qy19 (qr19 (show IsS71 w0 _ g s0_0 av from HI0.out) aT.out (by decide)) hk (fun _ h => h.2)) (fun _ h => h.1))
           have n5_ := qa19 (qd19 HK.out hk (.inl rfl))
           have n6_ := qa19 (hb)
           have n7_ := qa19 (hi)
           replace ab := n0_
           replace ag := n1_
           replace ae := n2_
           replace aa := n3_
           replace aT := n4_
           replace HK := n5_
           replace HB := n6_
           replace HI0 := n7_
           clear n0_ n1_ n2_ n3_ n4_ n5_ n6_ n7_
           (try clear hb)
           (try clear hb2)
           (try clear hk)
           (try clear hi)
           refine hK.out _ _ ⟨(qc19 aa.out 0).trans rfl, (qc19 aa.out 1).trans rfl, (qc19 aa.out 2).trans rfl, (qc19 aa.out 3).trans rfl, (qc19 aa.out 4).trans rfl⟩ (fun hHeld => ?_)
           clear hK K
           refine norm_ (a' := ?_) ?_ ?_
           rotate_left
           ·show Act.put _ (some 66) _ = _
            simp only [Act.put, qa_, qb_, qc_, i64_w, i32_w]
            rfl
           refine one_ (i := 6) (N := some 69) m19_17 rfl rfl (one_of HT_.out (by kernel_rfl)) (by decide) (fun K hK => ?_)
           refine goes_ Tryd.func34 (by kernel_rfl) rfl #[.pointer (some ⟨g, 0, none⟩), .int .i64 4] (by rfl) rfl rfl (by (try simp only [qh19, ql19, qp19]); first | done | rfl | (simp only [List.length_drop, List.length_take]; rfl)) ?_
           with_reducible refine (spec_l20Rd_pick.calls k g s0_0 bi 4 be b1 w0 _ ?side1 ?side2 A99.out).mono ?_
           (case side1 => exact HI0.out)
           (case side2 => exact HB.out)
           rintro e hj ⟨rfl, hi, hb, hk⟩
           refine ⟨_, rfl, ?_⟩
           have n0_ := qa19 (qe19 hk (g' := ad) (o := .cells #[.slice none 0 0, .int .i64 0, .int .i64 0, .slice none 0 0, .int .i64 0] 26 (0, 0)) ab.out am.out (by simp))
           have n1_ := qa19 (qk19 (qy19 (qr19 (show IsS71 w0 _ g s0_0 bi from HI0.out) ag.out (by decide)) hk (fun _ h => h.2)) (fun _ h => h.1))
           have n2_ := qa19 (qq19 (qA19 (qs19 (show IsS71 w0 _ g s0_0 bi from HI0.out) ae.out (by decide)) hk (fun _ h => h.2)) (fun _ h => h.1))
           have n3_ := qa19 (qe19 hk (g' := ac) (o := .cells #[.slice ay ah.length az, .int .i64 ai, .int .i64 aj, .slice aB af.length aA, .int .i64 al] 26 (0, 0)) aa.out ao.out (by simp))
           have n4_ := qa19 (qk19 (qy19 (qr19 (show IsS71 w0 _ g s0_0 bi from HI0.out) aT.out (by decide)) hk (fun _ h => h.2)) (fun _ h => h.1))
           have n5_ := qa19 (qd19 HK.out hk (.inl rfl))
           have n6_ := qa19 (hb)
           have n7_ := qa19 (hi)
           replace ab := n0_
           replace ag := n1_
           replace ae := n2_
           replace aa := n3_
           replace aT := n4_
           replace HK := n5_
           replace HB := n6_
           replace HI0 := n7_
           clear n0_ n1_ n2_ n3_ n4_ n5_ n6_ n7_
           (try clear hb)
           (try clear hb2)
           (try clear hk)
           (try clear hi)
           refine hK.out _ _ ⟨(qc19 aa.out 0).trans rfl, (qc19 aa.out 1).trans rfl, (qc19 aa.out 2).trans rfl, (qc19 aa.out 3).trans rfl, (qc19 aa.out 4).trans rfl⟩ (fun hHeld => ?_)
           clear hK K
           refine norm_ (a' := ?_) ?_ ?_
           rotate_left
           ·show Act.put _ (some 69) _ = _
            simp only [Act.put, qa_, qb_, qc_, i64_w, i32_w]
            rfl
           exact norm_ (by simp only [putAll, Act.put, qa_, qb_, qc_]) (hCont (.slice (some db) y330.length fB, db) _ ⟨hHeld, ag.out, ae.out, aT.out, ⟨_, rfl⟩, ab.out, aa.out, HI0.out, HK.out, HB.out⟩)
         rintro ⟨cn, cq⟩ bk ⟨hS_, h0_, h1_, h2_, h3_, h4_, h5_, h6_, h7_, h8_⟩
         have n0_ : Aside0 (Kd.R k29 29 bk w.heap.size (fun _ => True) (.slice ay ah.length az) ah) := ⟨h0_⟩
         have n1_ : Aside0 (Kd.S k32 32 bk w.heap.size (fun _ => True) (.slice aB af.length aA) af) := ⟨h1_⟩
         have n2_ : Aside0 (Kd.R (Kd.int .i64) 3 bk w.heap.size (fun _ => True) cn y330) := ⟨h2_⟩
         have n3_ : Aside0 (∃ c_, (cn : Value) = .slice (some cq) y330.length c_) := ⟨h3_⟩
         have n4_ : Aside0 (bk.heap[ad]? = some (.cells #[.slice none 0 0, .int .i64 0, .int .i64 0, .slice none 0 0, .int .i64 0] 26 (0, 0))) := ⟨h4_⟩
         have n5_ : Aside0 (bk.heap[ac]? = some (.cells #[.slice ay ah.length az, .int .i64 ai, .int .i64 aj, .slice aB af.length aA, .int .i64 al] 26 (0, 0))) := ⟨h5_⟩
         have n6_ : Aside0 (IsS71 w0 bk g s0_0 b1) := ⟨h6_⟩
         have n7_ : Aside0 (KeepBut w bk g none) := ⟨h7_⟩
         have n8_ : Aside0 (Below w0.heap.size w0 bk) := ⟨h8_⟩
         clear h0_ h1_ h2_ h3_ h4_ h5_ h6_ h7_ h8_
         replace ag := n0_
         replace ae := n1_
         have aT := n2_
         have ck := n3_
         replace ab := n4_
         replace aa := n5_
         replace HI0 := n6_
         replace HK := n7_
         replace HB := n8_
         clear n0_ n1_ n2_ n3_ n4_ n5_ n6_ n7_ n8_
         have hHeld : bk.cell? ⟨ac, 0, none⟩ = some (.slice ay ah.length az) ∧ bk.cell? ⟨ac, 1, none⟩ = some (.int .i64 ai) ∧ bk.cell? ⟨ac, 2, none⟩ = some (.int .i64 aj) ∧ bk.cell? ⟨ac, 3, none⟩ = some (.slice aB af.length aA) ∧ bk.cell? ⟨ac, 4, none⟩ = some (.int .i64 al) := hS_
         obtain ⟨co122, fj⟩ := ck.out
         clear ck
         subst fj
         refine norm_ (a' := ?_) ?_ ?_
         rotate_left
         ·simp only [putAll, Act.put, qa_, qb_, qc_]
          rfl
         refine pure_ (i := 7) (N := some 70) (v := ?_) (a' := ?_) m19_22 rfl rfl (any_of HT_.out (by kernel_rfl)) (fun _ _ _ h => h) (Or.inl ⟨by rfl, ?_⟩) ?_ ?_
         rotate_left
         ·intro w'
          go_simp
          with_reducible rfl
         rotate_left
         ·simp only [Act.put, qa_, qb_, qc_, i64_w, i32_w]
          rfl
         refine one_ (i := 8) (N := some 71) m19_23 rfl rfl (one_of HT_.out (by kernel_rfl)) (by decide) (fun K hK => ?_)
         (have fe : 0 ≤ (be : Int) := of_decide_eq_true (by first | (with_reducible assumption) | assumption); have fc : be < (y330.length : Int) := of_decide_eq_true (by first | (with_reducible assumption) | assumption); obtain ⟨fL, gi, cC⟩ := Kd.at_int (Kd.R_reads' aT.out).2.2 be fe fc; obtain rfl : cq = fL := (by injection gi))
         refine value_ (w1 := ?_) (v := ?_) (by rfl) rfl ?_ ?_
         rotate_left 2
         ·go_simp
          constructor
          ·rfl
          ·rfl
         clear cC
         refine hK.out _ _ ⟨(qc19 aa.out 0).trans rfl, (qc19 aa.out 1).trans rfl, (qc19 aa.out 2).trans rfl, (qc19 aa.out 3).trans rfl, (qc19 aa.out 4).trans rfl⟩ (fun hHeld => ?_)
         clear hK K
         refine norm_ (a' := ?_) ?_ ?_
         rotate_left
         ·show Act.put _ (some 71) _ = _
          simp only [Act.put, qa_, qb_, qc_, i64_w, i32_w]
          rfl
         refine pure_ (i := 9) (N := some 72) (v := ?_) (a' := ?_) m19_24 rfl rfl (any_of HT_.out (by kernel_rfl)) (fun _ _ _ h => h) (Or.inl ⟨by rfl, ?_⟩) ?_ ?_
         rotate_left
         ·intro w'
          go_simp
          with_reducible rfl
         rotate_left
         ·simp only [Act.put, qa_, qb_, qc_, i64_w, i32_w]
          rfl
         refine one_ (i := 10) (N := some 73) m19_25 rfl rfl (one_of HT_.out (by kernel_rfl)) (by decide) (fun K hK => ?_)
         refine value_ (w1 := ?_) (v := ?_) (by rfl) rfl ?_ ?_
         rotate_left 2
         ·go_simp
          constructor
          ·rfl
          ·rfl
         refine hK.out _ _ ⟨(qc19 (qj19 aa.out _) 0).trans rfl, (qc19 (qj19 aa.out _) 1).trans rfl, (qc19 (qj19 aa.out _) 2).trans rfl, (qc19 (qj19 aa.out _) 3).trans rfl, (qc19 (qj19 aa.out _) 4).trans rfl⟩ (fun hHeld => ?_)
         clear hK K
         refine norm_ (a' := ?_) ?_ ?_
         rotate_left
         ·show Act.put _ (some 73) _ = _
          simp only [Act.put, qa_, qb_, qc_, i64_w, i32_w]
          rfl
         refine one_ (i := 11) (N := some 74) m19_26 rfl rfl (one_of HT_.out (by kernel_rfl)) (by decide) (fun K hK => ?_)
         refine Kd.R_append_step k29 w.heap.size (by rfl) (.tmp 64) (.tmp 73) 23 29 (.agg #[(.int .i64 0), (.int .i64 0)]) 16 rfl Tryd.underlying23 info29 rfl (by decide) (by omega) (.slice ay ah.length az) ah (⟨bC, rd y330 be⟩ : S29) [.int .i64 bC, .int .i64 (rd y330 be)] (fun _ => True) (fun _ => False) rfl rfl ?aP (fun _ hk => hk.elim) ?aF ?aO (Below.refl _ _) ?aS ?aL ?_
         (case aP => exact k29_mkM _ _ _ (⟨bC, rd y330 be⟩ : S29))
         (case aF => exact (fun _ _ => trivial))
         (case aO => exact (by (with_reducible repeat (first | apply Kd.R_alloc | apply Kd.R_drewN | apply Kd.R_drew)); exact ag.out))
         (case aS => exact (keep_size (w := w) (g := g) (row := none) (by repeat (first | (with_reducible first | exact HK.out | apply qE19 | apply keep_drewN | apply keep_drew | apply keep_alloc | refine qz19 ?_ aC.out _ | refine qz19 ?_ aD.out _) | exact HK.out))))
         (case aL => have := e4.out; omega)
         intro v337 w123 ho hb hg hat
         rw [← fv.out] at ho
         have n0_ := qa19 (IsS71.grown HI0.out hg (IsS71.own_ne HI0.out ag.out (by decide)))
         have n1_ := qa19 (blk_grown (g := ad) (o := .cells #[.slice none 0 0, .int .i64 0, .int .i64 0, .slice none 0 0, .int .i64 0] 26 (0, 0)) ab.out hg (Kd.R_ne ag.out ab.out (by decide)))
         have n2_ := qa19 (Kd.S_over' ae.out (Kd.R_typed ag.out) (by decide) hg)
         have n3_ := qa19 (blk_grown (g := ac) (o := .cells #[.slice ay ah.length az, .int .i64 ai, .int .i64 aj, .slice aB af.length aA, .int .i64 al] 26 (0, 0)) aa.out hg (Kd.R_ne ag.out aa.out (by decide)))
         have n4_ := qa19 (Kd.R_over' aT.out (Kd.R_typed ag.out) (by decide) hg)
         have n5_ := qa19 (below_weaken HB.out HL.out hb)
         have n6_ := qa19 (qd19 HK.out (KeepBut.of_grown hg g) (Kd.R_base2 ag.out))
         have n7_ := qa19 (ho)
         clear ag
         replace HI0 := n0_
         replace ab := n1_
         replace ae := n2_
         replace aa := n3_
         replace aT := n4_
         replace HB := n5_
         replace HK := n6_
         have eF := n7_
         clear n0_ n1_ n2_ n3_ n4_ n5_ n6_ n7_
         clear ho hb hg hat
         obtain ⟨bq, br, eS⟩ := Kd.R_slice eF.out
         (first | subst eS | (injection eS with f1_ f2_ f3_; have f4_ := f1_.symm; have f5_ := f3_.symm; clear f1_ f2_ f3_; subst f4_; subst f5_))
         refine hK.out _ _ ⟨(qc19 aa.out 0).trans rfl, (qc19 aa.out 1).trans rfl, (qc19 aa.out 2).trans rfl, (qc19 aa.out 3).trans rfl, (qc19 aa.out 4).trans rfl⟩ (fun hHeld => ?_)
         clear hK K
         refine norm_ (a' := ?_) ?_ ?_
         rotate_left
         ·show Act.put _ (some 74) _ = _
          simp only [Act.put, qa_, qb_, qc_, i64_w, i32_w]
          rfl
         refine pure_ (i := 12) (N := some 75) (v := ?_) (a' := ?_) m19_27 rfl rfl (any_of HT_.out (by kernel_rfl)) (fun _ _ _ h => h) (Or.inl ⟨by rfl, ?_⟩) ?_ ?_
         rotate_left
         ·intro w'
          go_simp
          with_reducible rfl
         rotate_left
         ·simp only [Act.put, qa_, qb_, qc_, i64_w, i32_w]
          rfl
         refine last_ (i := 13) (N := none) m19_28 rfl rfl (one_of HT_.out (by kernel_rfl)) (by decide) (fun K hK => ?_)
         have hs125 := bq19_ aa.out 0 rfl
         have lP := qb19 aa.out 0
         have f8 := ak.out
         have gm := ar.out
         refine skip_ (w1 := ?_) (by rfl) rfl ?_ ?_
         rotate_left
         ·go_simp
          rfl
         refine hK.out _ _ ?_
         clear hK K
         refine done_ (done_of HT_.out (by kernel_rfl)) ?_
         have dE := bq19_ aa.out 0 rfl
         have dI := bq19_ aa.out 1 rfl
         have dj := bq19_ aa.out 2 rfl
         have d1 := bq19_ aa.out 3 rfl
         have dr := bq19_ aa.out 4 rfl
         have dw := qb19 aa.out 0
         have ee := qb19 aa.out 1
         have ey := qb19 aa.out 2
         have ex := qb19 aa.out 3
         have dF := qb19 aa.out 4
         have ly := am.out
         have ls := ap.out
         have el := bq19_ ab.out 0 rfl
         have dg := bq19_ ab.out 1 rfl
         have d5 := bq19_ ab.out 2 rfl
         have dO := bq19_ ab.out 3 rfl
         have eA := bq19_ ab.out 4 rfl
         have eB := qb19 ab.out 0
         have df := qb19 ab.out 1
         have d4 := qb19 ab.out 2
         have eh := qb19 ab.out 3
         have dR := qb19 ab.out 4
         try go_wp2
         refine bodyPost_ret (results_cell_row rfl _ _ ad 26 #[.slice bq bv.length br, .int .i64 ai, .int .i64 aj, .slice aB af.length aA, .int .i64 al] (0, 0) _ rfl (by (with_reducible repeat (first | apply qo19 | apply qm19 | apply qj19)); refine blk_put (cs := #[.slice bq bv.length br, .int .i64 ai, .int .i64 aj, .slice aB af.length aA, .int .i64 0]) ?_ 4 _ rfl; refine blk_put (cs := #[.slice bq bv.length br, .int .i64 ai, .int .i64 aj, .slice none 0 0, .int .i64 0]) ?_ 3 _ rfl; refine blk_put (cs := #[.slice bq bv.length br, .int .i64 ai, .int .i64 0, .slice none 0 0, .int .i64 0]) ?_ 2 _ rfl; refine blk_put (cs := #[.slice bq bv.length br, .int .i64 0, .int .i64 0, .slice none 0 0, .int .i64 0]) ?_ 1 _ rfl; refine blk_put (cs := #[.slice none 0 0, .int .i64 0, .int .i64 0, .slice none 0 0, .int .i64 0]) ?_ 0 _ rfl; refine blk_far ?_ ak.out _; (with_reducible repeat (first | apply qo19 | apply qm19 | apply qj19)); exact ab.out) Tryd.underlying26 rfl (by kernel_rfl)) rfl ?_
         exact ⟨_, _, by first | rfl | (simp [errW_none, errW_some] <;> rfl) | (simp [*, errW_none, errW_some] <;> rfl), by (with_reducible repeat (first | apply Kd.R_alloc | apply Kd.R_drewN | apply Kd.R_drew)); exact qk19 (qf19 (p := ⟨ad, 4, none⟩) (qf19 (p := ⟨ad, 3, none⟩) (qf19 (p := ⟨ad, 2, none⟩) (qf19 (p := ⟨ad, 1, none⟩) (qf19 (p := ⟨ad, 0, none⟩) (qf19 (p := ⟨ac, 0, none⟩) (Kd.R_types (Kd.R_types eF.out aa.out (by decide)) ab.out (by decide)) (fun _ hk => hk.1.2) (.slice bq bv.length br)) (fun _ hk => hk.2) (.slice bq bv.length br)) (fun _ hk => hk.2) (.int .i64 ai)) (fun _ hk => hk.2) (.int .i64 aj)) (fun _ hk => hk.2) (.slice aB af.length aA)) (fun _ hk => hk.2) (.int .i64 al)) (fun _ hk => trivial), by (with_reducible repeat (first | apply Kd.S_alloc | apply Kd.S_drewN | apply Kd.S_drew)); exact qq19 (qg19 (p := ⟨ad, 4, none⟩) (qg19 (p := ⟨ad, 3, none⟩) (qg19 (p := ⟨ad, 2, none⟩) (qg19 (p := ⟨ad, 1, none⟩) (qg19 (p := ⟨ad, 0, none⟩) (qg19 (p := ⟨ac, 0, none⟩) (Kd.S_types (Kd.S_types ae.out aa.out (by decide)) ab.out (by decide)) (fun _ hk => hk.1.2) (.slice bq bv.length br)) (fun _ hk => hk.2) (.slice bq bv.length br)) (fun _ hk => hk.2) (.int .i64 ai)) (fun _ hk => hk.2) (.int .i64 aj)) (fun _ hk => hk.2) (.slice aB af.length aA)) (fun _ hk => hk.2) (.int .i64 al)) (fun _ hk => trivial), by repeat (first | (with_reducible first | exact HI0.out | apply qv19 | apply qw19 | apply qu19 | apply qx19 | refine qi19 ?_ ap.out _ | refine qi19 ?_ an.out _) | exact HI0.out), by repeat (first | (with_reducible first | exact HB.out | apply below_alloc | apply qC19 | apply qD19 | refine qn19 ?_ (IsS71.ge HI0.out) | refine qn19 ?_ aH.out | refine qn19 ?_ aG.out) | exact HB.out), by repeat (first | (with_reducible first | exact HK.out | apply qE19 | apply keep_drewN | apply keep_drew | apply keep_alloc | refine qz19 ?_ aC.out _ | refine qz19 ?_ aD.out _) | exact HK.out)⟩
        ·rw [if_neg c102] at H
         exact absurd H (by simp)
       ·rw [if_neg c101] at H
        exact absurd H (by simp)
      ·rw [if_neg c100] at H
       exact absurd H (by simp)
     ·rw [if_neg c97] at H
      have eL : (aE == 3) = false := beq_eq_false_iff_ne.mpr c97
      have eU : (aE != 3) = true := bne_iff_ne.mpr c97
      by_cases c129 : aE = 4
      ·rw [if_pos c129] at H
       have de : (aE == 4) = true := beq_iff_eq.mpr c129
       have c0 : (aE != 4) = false := bne_eq_false_iff_eq.mpr c129
       clear c129
       by_cases c130 : 0 ≤ aq
       ·rw [if_pos c130] at H
        have fi : decide (0 ≤ aq) = true := decide_eq_true c130
        clear c130
        by_cases c131 : aq < (af.length : Int)
        ·rw [if_pos c131] at H
         have e7 : decide (aq < (af.length : Int)) = true := decide_eq_true c131
         clear c131
         replace H := Option.bind_eq_some_iff.mp H
         obtain ⟨⟨cf, cg, ch, ca, cr, cj, co, cB, cv, cx, cm, cV⟩, eQ, H⟩ := H
         (try dsimp only at H)
         have gU := qa19 eQ
         clear eQ
         by_cases c133 : ((rd_T32 af aq).f0).length < 1466015503701
         ·rw [if_pos c133] at H
          have fg := qa19 c133
          clear c133
          obtain ⟨bh, bQ⟩ : ∃ y_ : List (S37), y_ = (((rd_T32 af aq).f0) ++ [(⟨cf, cg, ch, (⟨ca, cr⟩ : S35), (⟨cj, co⟩ : S35), (⟨cB, cv⟩ : S35), (⟨cx, cm⟩ : S35)⟩ : S37)]) := ⟨_, rfl⟩
          replace H : (some (ah, ai, aj, (af.set (aq : Int).toNat (⟨bh, (rd_T32 af aq).f1⟩ : S32)), al, cV)) = some (r1, r2, r3, r4, r5, r6) := by first | (rw [bQ]; with_reducible exact H) | (have H2_ := (Option.bind_some _ _).symm.trans H; rw [bQ]; with_reducible exact H2_) | (have H2_ := (Option.bind_some _ _).symm.trans H; with_reducible exact H2_) | with_reducible exact H | (rw [bQ]; exact H) | exact H
          have ft := qa19 bQ
          clear bQ
          obtain ⟨fh, bL⟩ : ∃ y_ : List (S32), y_ = (af.set (aq : Int).toNat (⟨bh, (rd_T32 af aq).f1⟩ : S32)) := ⟨_, rfl⟩
          replace H : (some (ah, ai, aj, fh, al, cV)) = some (r1, r2, r3, r4, r5, r6) := by first | (rw [bL]; with_reducible exact H) | (have H2_ := (Option.bind_some _ _).symm.trans H; rw [bL]; with_reducible exact H2_) | (have H2_ := (Option.bind_some _ _).symm.trans H; with_reducible exact H2_) | with_reducible exact H | (rw [bL]; exact H) | exact H
          have fl := qa19 bL
          clear bL
          simp only [Option.some.injEq, Prod.mk.injEq] at H
          obtain ⟨rfl, rfl, rfl, rfl, rfl, rfl⟩ := H
          go_enter Tryd.func19, Tryd.ntmps19
          try go_wp2_with (first | ((with_reducible refine gate_dst (N := 4) rfl ?_); refine box_event ?hg (N := 4) ?hd (cs := #[.slice none 0 0, .int .i64 0, .int .i64 0, .slice none 0 0, .int .i64 0]) (t := 26) ?hr ?_; (case hd => rfl); (case hg => rfl); (case hr => go_simp <;> rfl); intro ad hg w135 hbox hb; have n0_ := qa19 (qB19 HI0.out hb); have n1_ := qa19 (qd19 HK.out (qt19 hb g none) (.inl rfl)); have n2_ := qa19 (qF19 HB.out hb); have n3_ := qa19 (hbox); have n4_ := qa19 ((by rw [hg]; exact (keep_size (w := w) (g := g) (row := none) HK.out) : w.heap.size ≤ ad)); have n5_ := qa19 (Nat.le_trans HW0.out n4_.out); have n6_ := qa19 ((by rw [hg]; exact Nat.ne_of_lt (IsS71.lt (show IsS71 w0 _ g s0_0 s0_1 from HI0.out)) : g ≠ ad)); have n7_ := qa19 (Ne.symm n6_.out); replace HI0 := n0_; replace HK := n1_; replace HB := n2_; have ab := n3_; have aC := n4_; have aH := n5_; have ap := n6_; have am := n7_; clear n0_ n1_ n2_ n3_ n4_ n5_ n6_ n7_; clear hb hbox hg) | ((with_reducible refine gate_callee (f := 40) rfl ?_); refine goesL_ (some 8) rfl rfl Tryd.func40 (by kernel_rfl) rfl #[.pointer (some ⟨g, 0, none⟩)] rfl (by (try simp only [qh19, ql19, qp19]) <;> rfl) ?_; (with_reducible refine (spec_l20Table.calls k g s0_0 s0_1 ah ai aj af al ax w0 _ ?side1 ?side2 A3.out).mono ?_); (case side1 => exact HI0.out); (case side2 => exact HB.out); rintro e w136 ⟨b2, b4, rfl, ho0, ho1, hi, hb, hk⟩; refine ⟨_, rfl, ?_⟩; have n0_ := qa19 (qe19 hk (g' := ad) (o := .cells #[.slice none 0 0, .int .i64 0, .int .i64 0, .slice none 0 0, .int .i64 0] 26 (0, 0)) ab.out am.out (by simp)); have n1_ := qa19 (Kd.R_lower ho0 (keep_size (w := w) (g := g) (row := none) HK.out)); have n2_ := qa19 (Kd.S_lower ho1 (keep_size (w := w) (g := g) (row := none) HK.out)); have n3_ := qa19 (qd19 HK.out hk (.inl rfl)); have n4_ := qa19 (hb); have n5_ := qa19 (hi); replace ab := n0_; have ag := n1_; have ae := n2_; replace HK := n3_; replace HB := n4_; replace HI0 := n5_; clear n0_ n1_ n2_ n3_ n4_ n5_; (try clear hb hk hi); (try clear ho0); (try clear ho1)) | ((with_reducible refine gate_dst (N := 5) rfl ?_); refine box_event ?hg (N := 5) ?hd (cs := #[.slice none 0 0, .int .i64 0, .int .i64 0, .slice none 0 0, .int .i64 0]) (t := 26) ?hr ?_; (case hd => rfl); (case hg => rfl); (case hr => go_simp <;> rfl); intro ac hg w137 hbox hb; have n0_ := qa19 (Kd.R_below ag.out hb); have n1_ := qa19 (Kd.S_below ae.out hb); have n2_ := qa19 (qB19 HI0.out hb); have n3_ := qa19 (blk_below (g := ad) (o := .cells #[.slice none 0 0, .int .i64 0, .int .i64 0, .slice none 0 0, .int .i64 0] 26 (0, 0)) ab.out hb); have n4_ := qa19 (qd19 HK.out (qt19 hb g none) (.inl rfl)); have n5_ := qa19 (qF19 HB.out hb); have n6_ := qa19 (hbox); have n7_ := qa19 ((by rw [hg]; exact (keep_size (w := w) (g := g) (row := none) HK.out) : w.heap.size ≤ ac)); have n8_ := qa19 (Nat.le_trans HW0.out n7_.out); have n9_ := qa19 ((by rw [hg]; exact Nat.ne_of_lt (blk_lt (g := ad) (o := .cells #[.slice none 0 0, .int .i64 0, .int .i64 0, .slice none 0 0, .int .i64 0] 26 (0, 0)) ab.out) : ad ≠ ac)); have a9 := qa19 (Ne.symm n9_.out); have aM := qa19 ((by rw [hg]; exact Nat.ne_of_lt (IsS71.lt (show IsS71 w0 _ g s0_0 ax from HI0.out)) : g ≠ ac)); have a7 := qa19 (Ne.symm aM.out); replace ag := n0_; replace ae := n1_; replace HI0 := n2_; replace ab := n3_; replace HK := n4_; replace HB := n5_; have aa := n6_; have aD := n7_; have aG := n8_; have ak := n9_; have ar := a9; have an := aM; have ao := a7; clear n0_ n1_ n2_ n3_ n4_ n5_ n6_ n7_ n8_ n9_ a9 aM a7; clear hb hbox hg; obtain ⟨aR, aQ, fO⟩ := Kd.R_slice ag.out; subst fO; have lF := ar.out; have lx := ak.out; have lM := ao.out; have ln := an.out; have ei := bq19_ aa.out 0 rfl; have dN := bq19_ aa.out 1 rfl; have dC := bq19_ aa.out 2 rfl; have d8 := bq19_ aa.out 3 rfl; have dv := bq19_ aa.out 4 rfl; have dp := qb19 aa.out 0; have dq := qb19 aa.out 1; have eg := qb19 aa.out 2; have dT := qb19 aa.out 3; have di := qb19 aa.out 4; obtain ⟨bI, bb, fw⟩ := Kd.S_slice ae.out; subst fw) | ((with_reducible refine gate_callee (f := 34) rfl ?_); refine goesL_ (some 11) rfl rfl Tryd.func34 (by kernel_rfl) rfl #[.pointer (some ⟨g, 0, none⟩), .int .i64 a1] rfl (by (try simp only [qh19, ql19, qp19]) <;> rfl) ?_; (with_reducible refine (spec_l20Rd_pick.calls k g s0_0 ax a1 bu aX w0 _ ?side1 ?side2 A4.out).mono ?_); (case side1 => repeat (first | (with_reducible first | exact HI0.out | apply qv19 | apply qw19 | apply qu19 | apply qx19 | refine qi19 ?_ ap.out _ | refine qi19 ?_ an.out _) | exact HI0.out)); (case side2 => repeat (first | (with_reducible first | exact HB.out | apply below_alloc | apply qC19 | apply qD19 | refine qn19 ?_ (IsS71.ge HI0.out) | refine qn19 ?_ aH.out | refine qn19 ?_ aG.out) | exact HB.out)); rintro e w143 ⟨rfl, hi, hb, hk⟩; refine ⟨_, rfl, ?_⟩; have n0_ := qa19 (qe19 hk (g' := ad) (o := .cells #[.slice none 0 0, .int .i64 0, .int .i64 0, .slice none 0 0, .int .i64 0] 26 (0, 0)) (by (with_reducible repeat (first | apply qo19 | apply qm19 | apply qj19)); refine blk_far ?_ ak.out _; refine blk_far ?_ ak.out _; refine blk_far ?_ ak.out _; refine blk_far ?_ ak.out _; refine blk_far ?_ ak.out _; (with_reducible repeat (first | apply qo19 | apply qm19 | apply qj19)); exact ab.out) am.out (by simp)); have n1_ := qa19 (qk19 (qy19 (qr19 (show IsS71 w0 _ g s0_0 ax from by repeat (first | (with_reducible first | exact HI0.out | apply qv19 | apply qw19 | apply qu19 | apply qx19 | refine qi19 ?_ ap.out _ | refine qi19 ?_ an.out _) | exact HI0.out)) (by (with_reducible repeat (first | apply Kd.R_alloc | apply Kd.R_drewN | apply Kd.R_drew)); exact (qk19 (qf19 (p := ⟨ac, 4, none⟩) (qf19 (p := ⟨ac, 3, none⟩) (qf19 (p := ⟨ac, 2, none⟩) (qf19 (p := ⟨ac, 1, none⟩) (qf19 (p := ⟨ac, 0, none⟩) (Kd.R_types ag.out aa.out (by decide)) (fun _ hk => hk.2) (.slice aR ah.length aQ)) (fun _ hk => hk.2) (.int .i64 ai)) (fun _ hk => hk.2) (.int .i64 aj)) (fun _ hk => hk.2) (.slice bI af.length bb)) (fun _ hk => hk.2) (.int .i64 al)) (fun _ h_ => h_.1))) (by decide)) hk (fun _ h => h.2)) (fun _ h => h.1)); have n2_ := qa19 (qq19 (qA19 (qs19 (show IsS71 w0 _ g s0_0 ax from by repeat (first | (with_reducible first | exact HI0.out | apply qv19 | apply qw19 | apply qu19 | apply qx19 | refine qi19 ?_ ap.out _ | refine qi19 ?_ an.out _) | exact HI0.out)) (by (with_reducible repeat (first | apply Kd.S_alloc | apply Kd.S_drewN | apply Kd.S_drew)); exact (qq19 (qg19 (p := ⟨ac, 4, none⟩) (qg19 (p := ⟨ac, 3, none⟩) (qg19 (p := ⟨ac, 2, none⟩) (qg19 (p := ⟨ac, 1, none⟩) (qg19 (p := ⟨ac, 0, none⟩) (Kd.S_types ae.out aa.out (by decide)) (fun _ hk => hk.2) (.slice aR ah.length aQ)) (fun _ hk => hk.2) (.int .i64 ai)) (fun _ hk => hk.2) (.int .i64 aj)) (fun _ hk => hk.2) (.slice bI af.length bb)) (fun _ hk => hk.2) (.int .i64 al)) (fun _ h_ => h_.1))) (by decide)) hk (fun _ h => h.2)) (fun _ h => h.1)); have n3_ := qa19 (qe19 hk (g' := ac) (o := .cells #[.slice aR ah.length aQ, .int .i64 ai, .int .i64 aj, .slice bI af.length bb, .int .i64 al] 26 (0, 0)) (by (with_reducible repeat (first | apply qo19 | apply qm19 | apply qj19)); refine blk_put (cs := #[.slice aR ah.length aQ, .int .i64 ai, .int .i64 aj, .slice bI af.length bb, .int .i64 0]) ?_ 4 _ rfl; refine blk_put (cs := #[.slice aR ah.length aQ, .int .i64 ai, .int .i64 aj, .slice none 0 0, .int .i64 0]) ?_ 3 _ rfl; refine blk_put (cs := #[.slice aR ah.length aQ, .int .i64 ai, .int .i64 0, .slice none 0 0, .int .i64 0]) ?_ 2 _ rfl; refine blk_put (cs := #[.slice aR ah.length aQ, .int .i64 0, .int .i64 0, .slice none 0 0, .int .i64 0]) ?_ 1 _ rfl; refine blk_put (cs := #[.slice none 0 0, .int .i64 0, .int .i64 0, .slice none 0 0, .int .i64 0]) ?_ 0 _ rfl; (with_reducible repeat (first | apply qo19 | apply qm19 | apply qj19)); exact aa.out) ao.out (by simp)); have n4_ := qa19 (qd19 (by repeat (first | (with_reducible first | exact HK.out | apply qE19 | apply keep_drewN | apply keep_drew | apply keep_alloc | refine qz19 ?_ aC.out _ | refine qz19 ?_ aD.out _) | exact HK.out)) hk (.inl rfl)); have n5_ := qa19 (hb); have n6_ := qa19 (hi); replace ab := n0_; replace ag := n1_; replace ae := n2_; replace aa := n3_; replace HK := n4_; replace HB := n5_; replace HI0 := n6_; clear n0_ n1_ n2_ n3_ n4_ n5_ n6_; (try clear hb hk hi); have d2 := bq19_ aa.out 0 rfl; have es := bq19_ aa.out 1 rfl; have ed := bq19_ aa.out 2 rfl; have d0 := bq19_ aa.out 3 rfl; have eo := bq19_ aa.out 4 rfl; have dm := qb19 aa.out 0; have dz := qb19 aa.out 1; have ew := qb19 aa.out 2; have dG := qb19 aa.out 3; have dV := qb19 aa.out 4) | ((with_reducible refine gate_callee (f := 34) rfl ?_); refine goesL_ (some 18) rfl rfl Tryd.func34 (by kernel_rfl) rfl #[.pointer (some ⟨g, 0, none⟩), .int .i64 (af.length : Int)] rfl (by (try simp only [qh19, ql19, qp19]) <;> rfl) ?_; (with_reducible refine (spec_l20Rd_pick.calls k g s0_0 aX (af.length : Int) aq aY w0 _ ?side1 ?side2 A18.out).mono ?_); (case side1 => exact HI0.out); (case side2 => exact HB.out); rintro e w145 ⟨rfl, hi, hb, hk⟩; refine ⟨_, rfl, ?_⟩; have n0_ := qa19 (qe19 hk (g' := ad) (o := .cells #[.slice none 0 0, .int .i64 0, .int .i64 0, .slice none 0 0, .int .i64 0] 26 (0, 0)) ab.out am.out (by simp)); have n1_ := qa19 (qk19 (qy19 (qr19 (show IsS71 w0 _ g s0_0 aX from HI0.out) ag.out (by decide)) hk (fun _ h => h.2)) (fun _ h => h.1)); have n2_ := qa19 (qq19 (qA19 (qs19 (show IsS71 w0 _ g s0_0 aX from HI0.out) ae.out (by decide)) hk (fun _ h => h.2)) (fun _ h => h.1)); have n3_ := qa19 (qe19 hk (g' := ac) (o := .cells #[.slice aR ah.length aQ, .int .i64 ai, .int .i64 aj, .slice bI af.length bb, .int .i64 al] 26 (0, 0)) aa.out ao.out (by simp)); have n4_ := qa19 (qd19 HK.out hk (.inl rfl)); have n5_ := qa19 (hb); have n6_ := qa19 (hi); replace ab := n0_; replace ag := n1_; replace ae := n2_; replace aa := n3_; replace HK := n4_; replace HB := n5_; replace HI0 := n6_; clear n0_ n1_ n2_ n3_ n4_ n5_ n6_; (try clear hb hk hi)) | ((with_reducible refine gate_callee (f := 34) rfl ?_); refine goesL_ (some 20) rfl rfl Tryd.func34 (by kernel_rfl) rfl #[.pointer (some ⟨g, 0, none⟩), .int .i64 6] rfl (by (try simp only [qh19, ql19, qp19]) <;> rfl) ?_; (with_reducible refine (spec_l20Rd_pick.calls k g s0_0 aY 6 aE av w0 _ ?side1 ?side2 A19.out).mono ?_); (case side1 => exact HI0.out); (case side2 => exact HB.out); rintro e f4 ⟨rfl, hi, hb, hk⟩; refine ⟨_, rfl, ?_⟩; have n0_ := qa19 (qe19 hk (g' := ad) (o := .cells #[.slice none 0 0, .int .i64 0, .int .i64 0, .slice none 0 0, .int .i64 0] 26 (0, 0)) ab.out am.out (by simp)); have n1_ := qa19 (qk19 (qy19 (qr19 (show IsS71 w0 _ g s0_0 aY from HI0.out) ag.out (by decide)) hk (fun _ h => h.2)) (fun _ h => h.1)); have n2_ := qa19 (qq19 (qA19 (qs19 (show IsS71 w0 _ g s0_0 aY from HI0.out) ae.out (by decide)) hk (fun _ h => h.2)) (fun _ h => h.1)); have n3_ := qa19 (qe19 hk (g' := ac) (o := .cells #[.slice aR ah.length aQ, .int .i64 ai, .int .i64 aj, .slice bI af.length bb, .int .i64 al] 26 (0, 0)) aa.out ao.out (by simp)); have n4_ := qa19 (qd19 HK.out hk (.inl rfl)); have n5_ := qa19 (hb); have n6_ := qa19 (hi); replace ab := n0_; replace ag := n1_; replace ae := n2_; replace aa := n3_; replace HK := n4_; replace HB := n5_; replace HI0 := n6_; clear n0_ n1_ n2_ n3_ n4_ n5_ n6_; (try clear hb hk hi)))
          have n0_ := qa19 (Kd.R_drew ag.out)
          have n1_ := qa19 (Kd.S_drew ae.out)
          have n2_ := qa19 (qm19 ab.out)
          have n3_ := qa19 (qm19 aa.out)
          have n4_ := qa19 (qu19 HI0.out)
          have n5_ := qa19 (keep_drew HK.out)
          have n6_ := qa19 (qD19 HB.out)
          replace ag := n0_
          replace ae := n1_
          replace ab := n2_
          replace aa := n3_
          replace HI0 := n4_
          replace HK := n5_
          replace HB := n6_
          clear n0_ n1_ n2_ n3_ n4_ n5_ n6_
          have cl : 0 ≤ (aq : Int) := of_decide_eq_true (by first | (with_reducible assumption) | assumption)
          have cz : aq < (af.length : Int) := of_decide_eq_true (by first | (with_reducible assumption) | assumption)
          obtain ⟨bN, bS, bR, gS, bs, bH, cD, cG⟩ := at_T32 (Kd.S_reads' ae.out).2.2 aq cl cz
          cases gS
          obtain ⟨ce339, fd, e1, dd⟩ := Kd.S_get ae.out z32 aq cl (by first | exact cz | exact of_decide_eq_true (by first | (with_reducible assumption) | assumption) | (have e_ := (Kd.S_reads' ae.out).1; omega))
          obtain ⟨jS, rfl, bZ⟩ := k32_openM e1
          have bw := dd 0 _ rfl
          rw [Nat.add_zero] at bw
          replace bw := Option.some.inj (bw.symm.trans bs)
          rw [bw] at bZ
          have aw := qa19 (show Kd.R k37 37 _ _ _ _ ((rd_T32 af aq).f0) from bZ)
          clear bw bZ
          have bx := qa19 bs
          clear dd fd
          have eX := qa19 cG
          have hR := qa19 cD
          clear cG cD
          replace cl := eq_true cl
          replace cz := eq_true cz
          refine start_ (n := 16) (S := fun w' => w'.cell? ⟨ac, 0, none⟩ = some (.slice aR ah.length aQ) ∧ w'.cell? ⟨ac, 1, none⟩ = some (.int .i64 ai) ∧ w'.cell? ⟨ac, 2, none⟩ = some (.int .i64 aj) ∧ w'.cell? ⟨ac, 3, none⟩ = some (.slice (some bN) af.length bb) ∧ w'.cell? ⟨ac, 4, none⟩ = some (.int .i64 al) ∧ w'.cell? (bN.add ((aq).toNat * 2)) = some (.slice bS ((rd_T32 af aq).f0).length bR) ∧ w'.cell? ⟨(bN.add ((aq).toNat * 2)).block, (bN.add ((aq).toNat * 2)).off + 1, none⟩ = some (.bool ((rd_T32 af aq).f1))) (ds := [15]) m19_29 (by kernel_rfl) rfl rfl ⟨(qc19 aa.out 0).trans rfl, (qc19 aa.out 1).trans rfl, (qc19 aa.out 2).trans rfl, (qc19 aa.out 3).trans rfl, (qc19 aa.out 4).trans rfl, bs, bH⟩ (fun hHeld => ?_); refine with_tabW spec_l20AnyTable.tab17 spec_l20AnyTable.bits17 (fun HT_ HW_ => ?_)
          generalize f4.drew = w147 at ag ae ab aa HI0 HK HB aw eX bx bs bH hHeld ⊢
          refine pure_ (i := 0) (N := some 78) (v := ?_) (a' := ?_) m19_30 rfl rfl (any_of HT_.out (by kernel_rfl)) (fun _ _ _ h => h) (Or.inl ⟨by rfl, ?_⟩) ?_ ?_
          rotate_left
          ·intro w'
           go_simp
           with_reducible rfl
          rotate_left
          ·simp only [Act.put, qa_, qb_, qc_, i64_w, i32_w]
           rfl
          refine pure_ (i := 2) (N := some 80) (v := ?_) (a' := ?_) m19_31 rfl rfl (any_of HT_.out (by kernel_rfl)) (fun _ _ _ h => h) (Or.inl ⟨by rfl, ?_⟩) ?_ ?_
          rotate_left
          ·intro w'
           go_simp
           with_reducible rfl
          rotate_left
          ·simp only [Act.put, qa_, qb_, qc_, i64_w, i32_w]
           rfl
          refine pure_ (i := 3) (N := some 81) (v := ?_) (a' := ?_) m19_32 rfl rfl (any_of HT_.out (by kernel_rfl)) (fun _ _ _ h => h) (Or.inl ⟨by rfl, ?_⟩) ?_ ?_
          rotate_left
          ·intro w'
           go_simp
           with_reducible rfl
          rotate_left
          ·simp only [Act.put, qa_, qb_, qc_, i64_w, i32_w]
           rfl
          refine pure_ (i := 5) (N := some 83) (v := ?_) (a' := ?_) m19_33 rfl rfl (any_of HT_.out (by kernel_rfl)) (fun _ _ _ h => h) (Or.inl ⟨by rfl, ?_⟩) ?_ ?_
          rotate_left
          ·intro w'
           go_simp
           with_reducible rfl
          rotate_left
          ·simp only [Act.put, qa_, qb_, qc_, i64_w, i32_w]
           rfl
          refine pure_ (i := 9) (N := some 87) (v := ?_) (a' := ?_) m19_34 rfl rfl (any_of HT_.out (by kernel_rfl)) (fun _ _ _ h => h) (Or.inl ⟨by rfl, ?_⟩) ?_ ?_
          rotate_left
          ·intro w'
           go_simp
           with_reducible rfl
          rotate_left
          ·simp only [Act.put, qa_, qb_, qc_, i64_w, i32_w]
           rfl
          refine take_ (i := 1) (N := some 79) (v := ?_) (a' := ?_) m19_35 rfl rfl (take_ofW HT_.out HW_.out (by kernel_rfl)) (fun _ _ _ h => h) (Or.inl ⟨by rfl, ?_⟩) hHeld ?_ ?_
          rotate_left
          ·rintro w' ⟨s0, s1, s2, s3, s4, s5, s6⟩
           go_simp
           with_reducible rfl
          rotate_left
          ·simp only [Act.put, qa_, qb_, qc_, i64_w, i32_w]
           rfl
          refine take_ (i := 4) (N := some 82) (v := ?_) (a' := ?_) m19_36 rfl rfl (take_ofW HT_.out HW_.out (by kernel_rfl)) (fun _ _ _ h => h) (Or.inl ⟨by rfl, ?_⟩) hHeld ?_ ?_
          rotate_left
          ·rintro w' ⟨s0, s1, s2, s3, s4, s5, s6⟩
           go_simp
           with_reducible rfl
          rotate_left
          ·simp only [Act.put, qa_, qb_, qc_, i64_w, i32_w]
           rfl
          refine pure_ (i := 6) (N := some 84) (v := ?_) (a' := ?_) m19_37 rfl rfl (any_of HT_.out (by kernel_rfl)) (fun _ _ _ h => h) (Or.inl ⟨by rfl, ?_⟩) ?_ ?_
          rotate_left
          ·intro w'
           go_simp
           with_reducible rfl
          rotate_left
          ·simp only [Act.put, qa_, qb_, qc_, i64_w, i32_w]
           rfl
          refine pure_ (i := 7) (N := some 85) (v := ?_) (a' := ?_) m19_38 rfl rfl (any_of HT_.out (by kernel_rfl)) (fun _ _ _ h => h) (Or.inl ⟨by rfl, ?_⟩) ?_ ?_
          rotate_left
          ·intro w'
           go_simp
           with_reducible rfl
          rotate_left
          ·simp only [Act.put, qa_, qb_, qc_, i64_w, i32_w]
           rfl
          refine take_ (i := 8) (N := some 86) (v := ?_) (a' := ?_) m19_39 rfl rfl (take_ofW HT_.out HW_.out (by kernel_rfl)) (fun _ _ _ h => h) (Or.inl ⟨by rfl, ?_⟩) hHeld ?_ ?_
          rotate_left
          ·rintro w' ⟨s0, s1, s2, s3, s4, s5, s6⟩
           go_simp
           with_reducible rfl
          rotate_left
          ·simp only [Act.put, qa_, qb_, qc_, i64_w, i32_w]
           rfl
          refine one_ (i := 10) (N := some 88) m19_40 rfl rfl (one_of HT_.out (by kernel_rfl)) (by decide) (fun K hK => ?_)
          refine goes_ Tryd.func41 (by kernel_rfl) rfl #[.pointer (some ⟨g, 0, none⟩), .int .i64 1] (by rfl) rfl rfl (by (try simp only [qh19, ql19, qp19]); first | done | rfl | (simp only [List.length_drop, List.length_take]; rfl)) ?_
          with_reducible refine (spec_l20Cell.calls k g s0_0 av 1 cf cg ch ca cr cj co cB cv cx cm cV w0 _ ?side1 ?side2 gU.out).mono ?_
          (case side1 => exact HI0.out)
          (case side2 => exact HB.out)
          rintro e g5 ⟨rfl, hi, hb, hk⟩
          have cT := keep_cell hk (hHeld.2.2.2.2.2.1) (by first | (rw [add_block]; exact Kd.own_blk (IsS71.own_neS HI0.out ae.out (by decide))) | (show (Addr.add _ _).block ≠ _; rw [add_block]; exact Kd.own_blk (IsS71.own_neS HI0.out ae.out (by decide))) | exact Kd.own_blk (IsS71.own_neS HI0.out ae.out (by decide)))
          have cK := keep_cell hk (hHeld.2.2.2.2.2.2) (by first | (rw [add_block]; exact Kd.own_blk (IsS71.own_neS HI0.out ae.out (by decide))) | (show (Addr.add _ _).block ≠ _; rw [add_block]; exact Kd.own_blk (IsS71.own_neS HI0.out ae.out (by decide))) | exact Kd.own_blk (IsS71.own_neS HI0.out ae.out (by decide)))
          refine ⟨_, rfl, ?_⟩
          have n0_ := qa19 (qe19 hk (g' := ad) (o := .cells #[.slice none 0 0, .int .i64 0, .int .i64 0, .slice none 0 0, .int .i64 0] 26 (0, 0)) ab.out am.out (by simp))
          have n1_ := qa19 (qk19 (qy19 (qr19 (show IsS71 w0 _ g s0_0 av from HI0.out) ag.out (by decide)) hk (fun _ h => h.2)) (fun _ h => h.1))
          have n2_ := qa19 (qq19 (qA19 (qs19 (show IsS71 w0 _ g s0_0 av from HI0.out) ae.out (by decide)) hk (fun _ h => h.2)) (fun _ h => h.1))
          have n3_ := qa19 (qe19 hk (g' := ac) (o := .cells #[.slice aR ah.length aQ, .int .i64 ai, .int .i64 aj, .slice (some bN) af.length bb, .int .i64 al] 26 (0, 0)) aa.out ao.out (by simp))
          have n4_ := qa19 (qk19 (qy19 (qr19 (show IsS71 w0 _ g s0_0 av from HI0.out) aw.out (by decide)) hk (fun _ h => h.2)) (fun _ h => h.1))
          have n5_ := qa19 (keep_cell hk bx.out (by first | (rw [add_block]; exact Kd.own_blk (IsS71.own_neS HI0.out ae.out (by decide))) | (show (Addr.add _ _).block ≠ _; rw [add_block]; exact Kd.own_blk (IsS71.own_neS HI0.out ae.out (by decide))) | exact Kd.own_blk (IsS71.own_neS HI0.out ae.out (by decide)) | (dsimp only; exact Kd.own_blk (IsS71.own_neS HI0.out ae.out (by decide)))))
          have n6_ := qa19 (qd19 HK.out hk (.inl rfl))
          have n7_ := qa19 (hb)
          have n8_ := qa19 (hi)
          clear aw
          clear bx
          replace ab := n0_
          replace ag := n1_
          replace ae := n2_
          replace aa := n3_
          have aw := n4_
          have bx := n5_
          replace HK := n6_
          replace HB := n7_
          replace HI0 := n8_
          clear n0_ n1_ n2_ n3_ n4_ n5_ n6_ n7_ n8_
          (try clear hb)
          (try clear hb2)
          (try clear hk)
          (try clear hi)
          obtain ⟨aU, co149, eP, eO, fA, cl149, eM⟩ := Kd.S_form ae.out (by have h_ : (aq : Int) < ((af.length : Int) : Int) := of_decide_eq_true (by first | (with_reducible assumption) | assumption); have h2_ : 0 ≤ (aq : Int) := (of_decide_eq_true (by first | (with_reducible assumption) | assumption)); omega)
          (first | cases eP | (injection eP with ea_ en_ ec_; (first | subst ea_ | (injection ea_ with ea_; subst ea_)); subst ec_; clear en_))
          have eR := qa19 eO
          have GG149 := qa19 eM
          clear eO fA eM
          (first | simp only [add_plain] at bs | skip)
          (first | simp only [add_plain] at bH | skip)
          obtain ⟨cY, ce149, e0, fE, c2, _, _, eG⟩ := Kd.S_elem ae.out z32 (aq : Int) (of_decide_eq_true (by first | (with_reducible assumption) | assumption)) (by have h_ : (aq : Int) < ((af.length : Int) : Int) := of_decide_eq_true (by first | (with_reducible assumption) | assumption); first | exact h_ | (have e_ := (Kd.S_reads' ae.out).1; omega) | simpa using h_)
          obtain ⟨je, rfl, cE⟩ := k32_openM fE
          have b7 := c2 0 _ rfl
          have cS := bx.out
          (try simp only [add_plain] at cS)
          (try simp only [Nat.add_zero] at b7)
          replace b7 := Option.some.inj (b7.symm.trans cS)
          subst b7
          clear cS c2 e0
          have cX := qa19 (show Kd.R k37 37 _ w.heap.size cY (.slice bS ((rd_T32 af aq).f0).length bR) ((rd_T32 af aq).f0) from cE)
          have bK := qa19 eG
          have cR := qa19 (Kd.S_reads' ae.out).1
          clear eG cE
          refine hK.out _ _ ⟨(qc19 aa.out 0).trans rfl, (qc19 aa.out 1).trans rfl, (qc19 aa.out 2).trans rfl, (qc19 aa.out 3).trans rfl, (qc19 aa.out 4).trans rfl, cT, cK⟩ (fun hHeld => ?_)
          clear hK K
          refine norm_ (a' := ?_) ?_ ?_
          rotate_left
          ·show Act.put _ (some 88) _ = _
           simp only [Act.put, qa_, qb_, qc_, i64_w, i32_w]
           rfl
          refine one_ (i := 11) (N := some 89) m19_41 rfl rfl (one_of HT_.out (by kernel_rfl)) (by decide) (fun K hK => ?_)
          refine value_ (w1 := ?_) (v := ?_) (by rfl) rfl ?_ ?_
          rotate_left 2
          ·go_simp
           constructor
           ·rfl
           ·rfl
          refine hK.out _ _ ⟨(qc19 (qj19 aa.out _) 0).trans rfl, (qc19 (qj19 aa.out _) 1).trans rfl, (qc19 (qj19 aa.out _) 2).trans rfl, (qc19 (qj19 aa.out _) 3).trans rfl, (qc19 (qj19 aa.out _) 4).trans rfl, (World.cell?_alloc_lt _ _ _ (World.block_lt_of_cell? _ _ (hHeld.2.2.2.2.2.1))).trans (hHeld.2.2.2.2.2.1), (World.cell?_alloc_lt _ _ _ (World.block_lt_of_cell? _ _ (hHeld.2.2.2.2.2.2))).trans (hHeld.2.2.2.2.2.2)⟩ (fun hHeld => ?_)
          clear hK K
          refine norm_ (a' := ?_) ?_ ?_
          rotate_left
          ·show Act.put _ (some 89) _ = _
           simp only [Act.put, qa_, qb_, qc_, i64_w, i32_w]
           rfl
          refine one_ (i := 12) (N := some 90) m19_42 rfl rfl (one_of HT_.out (by kernel_rfl)) (by decide) (fun K hK => ?_)
          refine Kd.R_append_step k37 w.heap.size (by rfl) (.tmp 86) (.tmp 89) 30 37 (.agg #[(.string ⟨#[]⟩), (.int .i64 0), (.int .i64 0), (.int .i64 0), (.int .i64 0), (.int .i64 0), (.int .i64 0), (.int .i64 0), (.int .i64 0), (.int .i64 0), (.int .i64 0)]) 96 rfl Tryd.underlying30 info37 rfl (by decide) (by omega) (.slice bS ((rd_T32 af aq).f0).length bR) ((rd_T32 af aq).f0) (⟨cf, cg, ch, (⟨ca, cr⟩ : S35), (⟨cj, co⟩ : S35), (⟨cB, cv⟩ : S35), (⟨cx, cm⟩ : S35)⟩ : S37) [.string cf, .int .i64 cg, .int .i64 ch, .int .i64 ca, .int .i64 cr, .int .i64 cj, .int .i64 co, .int .i64 cB, .int .i64 cv, .int .i64 cx, .int .i64 cm] (fun k_ => cY k_ ∨ ((fun _ => True)) k_ ∧ g5.heap.size ≤ k_) (fun _ => False) rfl rfl ?aP (fun _ hk => hk.elim) ?aF ?aO (Below.refl _ _) ?aS ?aL ?_
          (case aP => exact k37_mkM _ _ _ (⟨cf, cg, ch, (⟨ca, cr⟩ : S35), (⟨cj, co⟩ : S35), (⟨cB, cv⟩ : S35), (⟨cx, cm⟩ : S35)⟩ : S37))
          (case aF => exact (fun k_ hk => .inr ⟨trivial, hk⟩))
          (case aO => exact (by (with_reducible repeat (first | apply Kd.R_alloc | apply Kd.R_drewN | apply Kd.R_drew)); exact qk19 cX.out (fun _ hk => .inl hk)))
          (case aS => exact (keep_size (w := w) (g := g) (row := none) (by repeat (first | (with_reducible first | exact HK.out | apply qE19 | apply keep_drewN | apply keep_drew | apply keep_alloc | refine qz19 ?_ aC.out _ | refine qz19 ?_ aD.out _) | exact HK.out))))
          (case aL => have := fg.out; omega)
          intro v353 bE ho hb hg hat
          (first | have cT := cell_grown hg (hHeld.2.2.2.2.2.1) (by first | (rw [add_block]; exact (fun e_ => ((aw.out.1 _ e_.symm).2) rfl)) | (show some (Addr.add _ _).block ≠ _; rw [add_block]; exact (fun e_ => ((aw.out.1 _ e_.symm).2) rfl)) | exact (fun e_ => ((aw.out.1 _ e_.symm).2) rfl)) | have cT := cell_grown hg (cell_unalloc (hHeld.2.2.2.2.2.1) (by first | (rw [add_block]; exact Kd.S_lt ae.out _ rfl) | (show (Addr.add _ _).block < _; rw [add_block]; exact Kd.S_lt ae.out _ rfl) | exact Kd.S_lt ae.out _ rfl)) (by first | (rw [add_block]; exact (fun e_ => ((aw.out.1 _ e_.symm).2) rfl)) | (show some (Addr.add _ _).block ≠ _; rw [add_block]; exact (fun e_ => ((aw.out.1 _ e_.symm).2) rfl)) | exact (fun e_ => ((aw.out.1 _ e_.symm).2) rfl)))
          (first | have cK := cell_grown hg (hHeld.2.2.2.2.2.2) (by first | (rw [add_block]; exact (fun e_ => ((aw.out.1 _ e_.symm).2) rfl)) | (show some (Addr.add _ _).block ≠ _; rw [add_block]; exact (fun e_ => ((aw.out.1 _ e_.symm).2) rfl)) | exact (fun e_ => ((aw.out.1 _ e_.symm).2) rfl)) | have cK := cell_grown hg (cell_unalloc (hHeld.2.2.2.2.2.2) (by first | (rw [add_block]; exact Kd.S_lt ae.out _ rfl) | (show (Addr.add _ _).block < _; rw [add_block]; exact Kd.S_lt ae.out _ rfl) | exact Kd.S_lt ae.out _ rfl)) (by first | (rw [add_block]; exact (fun e_ => ((aw.out.1 _ e_.symm).2) rfl)) | (show some (Addr.add _ _).block ≠ _; rw [add_block]; exact (fun e_ => ((aw.out.1 _ e_.symm).2) rfl)) | exact (fun e_ => ((aw.out.1 _ e_.symm).2) rfl)))
          rw [← ft.out] at ho
          have n0_ := qa19 (IsS71.grown HI0.out hg (IsS71.own_ne HI0.out aw.out (by decide)))
          have n1_ := qa19 (blk_grown (g := ad) (o := .cells #[.slice none 0 0, .int .i64 0, .int .i64 0, .slice none 0 0, .int .i64 0] 26 (0, 0)) ab.out hg (Kd.R_ne aw.out ab.out (by decide)))
          have n2_ := qa19 (Kd.R_over' (v := (.slice bS ((rd_T32 af aq).f0).length bR)) ag.out (Kd.R_typed aw.out) (by decide) hg)
          have n3_ := qa19 (blk_grown (g := ac) (o := .cells #[.slice aR ah.length aQ, .int .i64 ai, .int .i64 aj, .slice (some ⟨aU, 0, none⟩) af.length bb, .int .i64 al] 26 (0, 0)) aa.out hg (Kd.R_ne aw.out aa.out (by decide)))
          have n4_ := qa19 (below_weaken HB.out HL.out hb)
          have n5_ := qa19 (qd19 HK.out (KeepBut.of_grown hg g) (Kd.R_base2 aw.out))
          have n6_ := qa19 (Kd.H_grown (Kd.H_widen (by repeat (first | exact bK.out | refine Kd.H_alloc ?_ _ | refine Kd.H_drewN ?_ _ | refine Kd.H_drew ?_))) hg (fun k_ e_ => .inl (cX.out.1 k_ e_)))
          have n7_ := qa19 (ho)
          clear bK
          clear ae
          clear cX
          clear aw
          replace HI0 := n0_
          replace ab := n1_
          replace ag := n2_
          replace aa := n3_
          replace HB := n4_
          replace HK := n5_
          have bK := n6_
          have eC := n7_
          clear n0_ n1_ n2_ n3_ n4_ n5_ n6_ n7_
          clear ho hb hg hat
          have cQ : 0 ≤ (aq : Int) := of_decide_eq_true (by first | (with_reducible assumption) | assumption)
          have cL : (aq : Int) < ((af.length : Int) : Int) := of_decide_eq_true (by first | (with_reducible assumption) | assumption)
          replace cQ := eq_true cQ
          replace cL := eq_true cL
          obtain ⟨bl, bm, eN⟩ := Kd.R_slice eC.out
          (first | subst eN | (injection eN with f1_ f2_ f3_; have f4_ := f1_.symm; have f5_ := f3_.symm; clear f1_ f2_ f3_; subst f4_; subst f5_))
          obtain ⟨_, _, bG, _, _, c6, _⟩ := Kd.H_raw bK.out (of_decide_eq_true (by first | (with_reducible assumption) | assumption)) (by have h_ : (aq : Int) < ((af.length : Int) : Int) := of_decide_eq_true (by first | (with_reducible assumption) | assumption); first | exact h_ | (have e_ := (cR.out); omega) | simpa using h_)
          obtain ⟨_, dc⟩ := Kd.H_at bK.out (of_decide_eq_true (by first | (with_reducible assumption) | assumption)) (by have h_ : (aq : Int) < ((af.length : Int) : Int) := of_decide_eq_true (by first | (with_reducible assumption) | assumption); first | exact h_ | (have e_ := (cR.out); omega) | simpa using h_)
          have b0 := c6 0 _ rfl
          have cF := dc 0
          (try simp only [Nat.add_zero] at b0 cF)
          (try rw [show (k32).sz = 2 from rfl] at b0)
          (try rw [show (k32).sz = 2 from rfl] at cF)
          have eT := Kd.S_seg0 bK.out (of_decide_eq_true (by first | (with_reducible assumption) | assumption)) (by have h_ : (aq : Int) < ((af.length : Int) : Int) := of_decide_eq_true (by first | (with_reducible assumption) | assumption); first | exact h_ | (have e_ := (cR.out); omega) | simpa using h_) (seg := [.slice bl bh.length bm]) (j := 0) (show 1 ≤ 2 from by decide) (x' := (⟨bh, (rd_T32 af aq).f1⟩ : S32)) (k32_mkM _ _ _ (⟨bh, (rd_T32 af aq).f1⟩ : S32) eC.out) (fun _ hk => hk)
          clear c6 dc
          have da := qa19 (show g ≠ aU from by have h_ := IsS71.own_ne HI0.out bG (by decide); intro e_; exact h_ (by rw [e_]; rfl))
          have cp := qa19 (show ad ≠ aU from by have h_ := Kd.R_ne bG ab.out (by decide); intro e_; exact h_ (by rw [e_]; rfl))
          have ce := qa19 (show ac ≠ aU from by have h_ := Kd.R_ne bG aa.out (by decide); intro e_; exact h_ (by rw [e_]; rfl))
          have cW := eT.1
          rw [← fl.out] at cW
          have fK := qa19 cW
          obtain ⟨_, c8⟩ := Kd.R_typed bG aU rfl
          have eY := qa19 c8
          clear eT cW c8
          refine hK.out _ _ ⟨(qc19 aa.out 0).trans rfl, (qc19 aa.out 1).trans rfl, (qc19 aa.out 2).trans rfl, (qc19 aa.out 3).trans rfl, (qc19 aa.out 4).trans rfl, cT, cK⟩ (fun hHeld => ?_)
          clear hK K
          refine norm_ (a' := ?_) ?_ ?_
          rotate_left
          ·show Act.put _ (some 90) _ = _
           simp only [Act.put, qa_, qb_, qc_, i64_w, i32_w]
           rfl
          refine pure_ (i := 13) (N := some 91) (v := ?_) (a' := ?_) m19_43 rfl rfl (any_of HT_.out (by kernel_rfl)) (fun _ _ _ h => h) (Or.inl ⟨by rfl, ?_⟩) ?_ ?_
          rotate_left
          ·intro w'
           go_simp
           with_reducible rfl
          rotate_left
          ·simp only [Act.put, qa_, qb_, qc_, i64_w, i32_w]
           rfl
          refine pure_ (i := 14) (N := some 92) (v := ?_) (a' := ?_) m19_44 rfl rfl (any_of HT_.out (by kernel_rfl)) (fun _ _ _ h => h) (Or.inl ⟨by rfl, ?_⟩) ?_ ?_
          rotate_left
          ·intro w'
           go_simp
           with_reducible rfl
          rotate_left
          ·simp only [Act.put, qa_, qb_, qc_, i64_w, i32_w]
           rfl
          refine last_ (i := 15) (N := none) m19_45 rfl rfl (one_of HT_.out (by kernel_rfl)) (by decide) (fun K hK => ?_)
          refine skip_ (w1 := ?_) (by rfl) rfl ?_ ?_
          rotate_left
          ·go_simp
           rfl
          refine hK.out _ _ ?_
          clear hK K
          refine done_ (done_of HT_.out (by kernel_rfl)) ?_
          have n0_ : Aside0 (Kd.R k29 29 (bE.setCell ⟨aU, (aq : Int).toNat * 2, none⟩ (.slice bl bh.length bm)) w.heap.size (fun _ => True) (.slice aR ah.length aQ) ah) := ⟨by (with_reducible repeat (first | apply Kd.R_alloc | apply Kd.R_drewN | apply Kd.R_drew)); exact qk19 (qf19 (p := ⟨aU, (aq : Int).toNat * 2, none⟩) (Kd.R_types ag.out eY.out (by decide)) (fun _ hk => hk.2) (.slice bl bh.length bm)) (fun _ hk => trivial)⟩
          have n1_ : Aside0 (Kd.S k32 32 (bE.setCell ⟨aU, (aq : Int).toNat * 2, none⟩ (.slice bl bh.length bm)) w.heap.size (fun _ => True) (.slice (some ⟨aU, 0, none⟩) af.length bb) fh) := ⟨by (with_reducible repeat (first | apply Kd.S_alloc | apply Kd.S_drewN | apply Kd.S_drew)); exact fK.out⟩
          have n2_ : Aside0 ((bE.setCell ⟨aU, (aq : Int).toNat * 2, none⟩ (.slice bl bh.length bm)).heap[ad]? = some (.cells #[.slice none 0 0, .int .i64 0, .int .i64 0, .slice none 0 0, .int .i64 0] 26 (0, 0))) := ⟨by (with_reducible repeat (first | apply qo19 | apply qm19 | apply qj19)); refine blk_far ?_ cp.out _; (with_reducible repeat (first | apply qo19 | apply qm19 | apply qj19)); exact ab.out⟩
          have n3_ : Aside0 ((bE.setCell ⟨aU, (aq : Int).toNat * 2, none⟩ (.slice bl bh.length bm)).heap[ac]? = some (.cells #[.slice aR ah.length aQ, .int .i64 ai, .int .i64 aj, .slice (some ⟨aU, 0, none⟩) af.length bb, .int .i64 al] 26 (0, 0))) := ⟨by (with_reducible repeat (first | apply qo19 | apply qm19 | apply qj19)); refine blk_far ?_ ce.out _; (with_reducible repeat (first | apply qo19 | apply qm19 | apply qj19)); exact aa.out⟩
          have n4_ : Aside0 (IsS71 w0 (bE.setCell ⟨aU, (aq : Int).toNat * 2, none⟩ (.slice bl bh.length bm)) g s0_0 cV) := ⟨by repeat (first | (with_reducible first | exact HI0.out | apply qv19 | apply qw19 | apply qu19 | apply qx19 | refine qi19 ?_ da.out _ | refine qi19 ?_ ap.out _ | refine qi19 ?_ an.out _) | exact HI0.out)⟩
          have n5_ : Aside0 (KeepBut w (bE.setCell ⟨aU, (aq : Int).toNat * 2, none⟩ (.slice bl bh.length bm)) g none) := ⟨by repeat (first | (with_reducible first | exact HK.out | apply qE19 | apply keep_drewN | apply keep_drew | apply keep_alloc | refine qz19 ?_ eR.out _ | refine qz19 ?_ aC.out _ | refine qz19 ?_ aD.out _) | exact HK.out)⟩
          have n6_ : Aside0 (Below w0.heap.size w0 (bE.setCell ⟨aU, (aq : Int).toNat * 2, none⟩ (.slice bl bh.length bm))) := ⟨by repeat (first | (with_reducible first | exact HB.out | apply below_alloc | apply qC19 | apply qD19 | refine qn19 ?_ (Nat.le_trans HL.out eR.out) | refine qn19 ?_ (IsS71.ge HI0.out) | refine qn19 ?_ aH.out | refine qn19 ?_ aG.out) | exact HB.out)⟩
          (try clear ag)
          (try clear ae)
          (try clear ab)
          (try clear aa)
          (try clear HI0)
          (try clear HK)
          (try clear HB)
          generalize (bE.setCell ⟨aU, (aq : Int).toNat * 2, none⟩ (.slice bl bh.length bm)) = w154 at n0_ n1_ n2_ n3_ n4_ n5_ n6_ ⊢
          have ag := n0_
          have ae := n1_
          have ab := n2_
          have aa := n3_
          have HI0 := n4_
          have HK := n5_
          have HB := n6_
          clear n0_ n1_ n2_ n3_ n4_ n5_ n6_
          have dY := bq19_ aa.out 0 rfl
          have dt := bq19_ aa.out 1 rfl
          have dL := bq19_ aa.out 2 rfl
          have ej := bq19_ aa.out 3 rfl
          have dQ := bq19_ aa.out 4 rfl
          have dP := qb19 aa.out 0
          have dA := qb19 aa.out 1
          have dS := qb19 aa.out 2
          have dM := qb19 aa.out 3
          have ep := qb19 aa.out 4
          have lI := am.out
          have lG := ap.out
          have er := bq19_ ab.out 0 rfl
          have dX := bq19_ ab.out 1 rfl
          have dU := bq19_ ab.out 2 rfl
          have eb := bq19_ ab.out 3 rfl
          have dx := bq19_ ab.out 4 rfl
          have dW := qb19 ab.out 0
          have en := qb19 ab.out 1
          have ef := qb19 ab.out 2
          have dJ := qb19 ab.out 3
          have ek := qb19 ab.out 4
          try go_wp2
          refine bodyPost_ret (results_cell_row rfl _ _ ad 26 #[.slice aR ah.length aQ, .int .i64 ai, .int .i64 aj, .slice (some ⟨aU, 0, none⟩) af.length bb, .int .i64 al] (0, 0) _ rfl (by (with_reducible repeat (first | apply qo19 | apply qm19 | apply qj19)); refine blk_put (cs := #[.slice aR ah.length aQ, .int .i64 ai, .int .i64 aj, .slice (some ⟨aU, 0, none⟩) af.length bb, .int .i64 0]) ?_ 4 _ rfl; refine blk_put (cs := #[.slice aR ah.length aQ, .int .i64 ai, .int .i64 aj, .slice none 0 0, .int .i64 0]) ?_ 3 _ rfl; refine blk_put (cs := #[.slice aR ah.length aQ, .int .i64 ai, .int .i64 0, .slice none 0 0, .int .i64 0]) ?_ 2 _ rfl; refine blk_put (cs := #[.slice aR ah.length aQ, .int .i64 0, .int .i64 0, .slice none 0 0, .int .i64 0]) ?_ 1 _ rfl; refine blk_put (cs := #[.slice none 0 0, .int .i64 0, .int .i64 0, .slice none 0 0, .int .i64 0]) ?_ 0 _ rfl; (with_reducible repeat (first | apply qo19 | apply qm19 | apply qj19)); exact ab.out) Tryd.underlying26 rfl (by kernel_rfl)) rfl ?_
          exact ⟨_, _, by first | rfl | (simp [errW_none, errW_some] <;> rfl) | (simp [*, errW_none, errW_some] <;> rfl), by (with_reducible repeat (first | apply Kd.R_alloc | apply Kd.R_drewN | apply Kd.R_drew)); exact qk19 (qf19 (p := ⟨ad, 4, none⟩) (qf19 (p := ⟨ad, 3, none⟩) (qf19 (p := ⟨ad, 2, none⟩) (qf19 (p := ⟨ad, 1, none⟩) (qf19 (p := ⟨ad, 0, none⟩) (Kd.R_types ag.out ab.out (by decide)) (fun _ hk => hk.2) (.slice aR ah.length aQ)) (fun _ hk => hk.2) (.int .i64 ai)) (fun _ hk => hk.2) (.int .i64 aj)) (fun _ hk => hk.2) (.slice (some ⟨aU, 0, none⟩) af.length bb)) (fun _ hk => hk.2) (.int .i64 al)) (fun _ hk => trivial), by (with_reducible repeat (first | apply Kd.S_alloc | apply Kd.S_drewN | apply Kd.S_drew)); exact qq19 (qg19 (p := ⟨ad, 4, none⟩) (qg19 (p := ⟨ad, 3, none⟩) (qg19 (p := ⟨ad, 2, none⟩) (qg19 (p := ⟨ad, 1, none⟩) (qg19 (p := ⟨ad, 0, none⟩) (Kd.S_types ae.out ab.out (by decide)) (fun _ hk => hk.2) (.slice aR ah.length aQ)) (fun _ hk => hk.2) (.int .i64 ai)) (fun _ hk => hk.2) (.int .i64 aj)) (fun _ hk => hk.2) (.slice (some ⟨aU, 0, none⟩) af.length bb)) (fun _ hk => hk.2) (.int .i64 al)) (fun _ hk => trivial), by repeat (first | (with_reducible first | exact HI0.out | apply qv19 | apply qw19 | apply qu19 | apply qx19 | refine qi19 ?_ ap.out _ | refine qi19 ?_ an.out _) | exact HI0.out), by repeat (first | (with_reducible first | exact HB.out | apply below_alloc | apply qC19 | apply qD19 | refine qn19 ?_ (IsS71.ge HI0.out) | refine qn19 ?_ aH.out | refine qn19 ?_ aG.out) | exact HB.out), by repeat (first | (with_reducible first | exact HK.out | apply qE19 | apply keep_drewN | apply keep_drew | apply keep_alloc | refine qz19 ?_ aC.out _ | refine qz19 ?_ aD.out _) | exact HK.out)⟩
         ·rw [if_neg c133] at H
          exact absurd H (by simp)
        ·rw [if_neg c131] at H
         exact absurd H (by simp)
       ·rw [if_neg c130] at H
        exact absurd H (by simp)
      ·rw [if_neg c129] at H
       have de : (aE == 4) = false := beq_eq_false_iff_ne.mpr c129
       have c0 : (aE != 4) = true := bne_iff_ne.mpr c129
       have H' := qa19 H
       clear H
       go_enter Tryd.func19, Tryd.ntmps19
       go_wp2_with (first | ((with_reducible refine gate_dst (N := 4) rfl ?_); refine box_event ?hg (N := 4) ?hd (cs := #[.slice none 0 0, .int .i64 0, .int .i64 0, .slice none 0 0, .int .i64 0]) (t := 26) ?hr ?_; (case hd => rfl); (case hg => rfl); (case hr => go_simp <;> rfl); intro ad hg w158 hbox hb; have n0_ := qa19 (qB19 HI0.out hb); have n1_ := qa19 (qd19 HK.out (qt19 hb g none) (.inl rfl)); have n2_ := qa19 (qF19 HB.out hb); have n3_ := qa19 (hbox); have n4_ := qa19 ((by rw [hg]; exact (keep_size (w := w) (g := g) (row := none) HK.out) : w.heap.size ≤ ad)); have n5_ := qa19 (Nat.le_trans HW0.out n4_.out); have n6_ := qa19 ((by rw [hg]; exact Nat.ne_of_lt (IsS71.lt (show IsS71 w0 _ g s0_0 s0_1 from HI0.out)) : g ≠ ad)); have n7_ := qa19 (Ne.symm n6_.out); replace HI0 := n0_; replace HK := n1_; replace HB := n2_; have ab := n3_; have aC := n4_; have aH := n5_; have ap := n6_; have am := n7_; clear n0_ n1_ n2_ n3_ n4_ n5_ n6_ n7_; clear hb hbox hg) | ((with_reducible refine gate_callee (f := 40) rfl ?_); refine goesL_ (some 8) rfl rfl Tryd.func40 (by kernel_rfl) rfl #[.pointer (some ⟨g, 0, none⟩)] rfl (by (try simp only [qh19, ql19, qp19]) <;> rfl) ?_; (with_reducible refine (spec_l20Table.calls k g s0_0 s0_1 ah ai aj af al ax w0 _ ?side1 ?side2 A3.out).mono ?_); (case side1 => exact HI0.out); (case side2 => exact HB.out); rintro e w159 ⟨b2, b4, rfl, ho0, ho1, hi, hb, hk⟩; refine ⟨_, rfl, ?_⟩; have n0_ := qa19 (qe19 hk (g' := ad) (o := .cells #[.slice none 0 0, .int .i64 0, .int .i64 0, .slice none 0 0, .int .i64 0] 26 (0, 0)) ab.out am.out (by simp)); have n1_ := qa19 (Kd.R_lower ho0 (keep_size (w := w) (g := g) (row := none) HK.out)); have n2_ := qa19 (Kd.S_lower ho1 (keep_size (w := w) (g := g) (row := none) HK.out)); have n3_ := qa19 (qd19 HK.out hk (.inl rfl)); have n4_ := qa19 (hb); have n5_ := qa19 (hi); replace ab := n0_; have ag := n1_; have ae := n2_; replace HK := n3_; replace HB := n4_; replace HI0 := n5_; clear n0_ n1_ n2_ n3_ n4_ n5_; (try clear hb hk hi); (try clear ho0); (try clear ho1)) | ((with_reducible refine gate_dst (N := 5) rfl ?_); refine box_event ?hg (N := 5) ?hd (cs := #[.slice none 0 0, .int .i64 0, .int .i64 0, .slice none 0 0, .int .i64 0]) (t := 26) ?hr ?_; (case hd => rfl); (case hg => rfl); (case hr => go_simp <;> rfl); intro ac hg w160 hbox hb; have n0_ := qa19 (Kd.R_below ag.out hb); have n1_ := qa19 (Kd.S_below ae.out hb); have n2_ := qa19 (qB19 HI0.out hb); have n3_ := qa19 (blk_below (g := ad) (o := .cells #[.slice none 0 0, .int .i64 0, .int .i64 0, .slice none 0 0, .int .i64 0] 26 (0, 0)) ab.out hb); have n4_ := qa19 (qd19 HK.out (qt19 hb g none) (.inl rfl)); have n5_ := qa19 (qF19 HB.out hb); have n6_ := qa19 (hbox); have n7_ := qa19 ((by rw [hg]; exact (keep_size (w := w) (g := g) (row := none) HK.out) : w.heap.size ≤ ac)); have n8_ := qa19 (Nat.le_trans HW0.out n7_.out); have n9_ := qa19 ((by rw [hg]; exact Nat.ne_of_lt (blk_lt (g := ad) (o := .cells #[.slice none 0 0, .int .i64 0, .int .i64 0, .slice none 0 0, .int .i64 0] 26 (0, 0)) ab.out) : ad ≠ ac)); have a9 := qa19 (Ne.symm n9_.out); have aM := qa19 ((by rw [hg]; exact Nat.ne_of_lt (IsS71.lt (show IsS71 w0 _ g s0_0 ax from HI0.out)) : g ≠ ac)); have a7 := qa19 (Ne.symm aM.out); replace ag := n0_; replace ae := n1_; replace HI0 := n2_; replace ab := n3_; replace HK := n4_; replace HB := n5_; have aa := n6_; have aD := n7_; have aG := n8_; have ak := n9_; have ar := a9; have an := aM; have ao := a7; clear n0_ n1_ n2_ n3_ n4_ n5_ n6_ n7_ n8_ n9_ a9 aM a7; clear hb hbox hg; obtain ⟨aV, aW, fG⟩ := Kd.R_slice ag.out; subst fG; have lw := ar.out; have lu := ak.out; have lr := ao.out; have lv := an.out; have d3 := bq19_ aa.out 0 rfl; have dh := bq19_ aa.out 1 rfl; have ec := bq19_ aa.out 2 rfl; have dK := bq19_ aa.out 3 rfl; have dy := bq19_ aa.out 4 rfl; have dl := qb19 aa.out 0; have ez := qb19 aa.out 1; have dH := qb19 aa.out 2; have d7 := qb19 aa.out 3; have dD := qb19 aa.out 4; obtain ⟨bz, bA, fH⟩ := Kd.S_slice ae.out; subst fH) | ((with_reducible refine gate_callee (f := 34) rfl ?_); refine goesL_ (some 11) rfl rfl Tryd.func34 (by kernel_rfl) rfl #[.pointer (some ⟨g, 0, none⟩), .int .i64 a1] rfl (by (try simp only [qh19, ql19, qp19]) <;> rfl) ?_; (with_reducible refine (spec_l20Rd_pick.calls k g s0_0 ax a1 bu aX w0 _ ?side1 ?side2 A4.out).mono ?_); (case side1 => repeat (first | (with_reducible first | exact HI0.out | apply qv19 | apply qw19 | apply qu19 | apply qx19 | refine qi19 ?_ ap.out _ | refine qi19 ?_ an.out _) | exact HI0.out)); (case side2 => repeat (first | (with_reducible first | exact HB.out | apply below_alloc | apply qC19 | apply qD19 | refine qn19 ?_ (IsS71.ge HI0.out) | refine qn19 ?_ aH.out | refine qn19 ?_ aG.out) | exact HB.out)); rintro e w166 ⟨rfl, hi, hb, hk⟩; refine ⟨_, rfl, ?_⟩; have n0_ := qa19 (qe19 hk (g' := ad) (o := .cells #[.slice none 0 0, .int .i64 0, .int .i64 0, .slice none 0 0, .int .i64 0] 26 (0, 0)) (by (with_reducible repeat (first | apply qo19 | apply qm19 | apply qj19)); refine blk_far ?_ ak.out _; refine blk_far ?_ ak.out _; refine blk_far ?_ ak.out _; refine blk_far ?_ ak.out _; refine blk_far ?_ ak.out _; (with_reducible repeat (first | apply qo19 | apply qm19 | apply qj19)); exact ab.out) am.out (by simp)); have n1_ := qa19 (qk19 (qy19 (qr19 (show IsS71 w0 _ g s0_0 ax from by repeat (first | (with_reducible first | exact HI0.out | apply qv19 | apply qw19 | apply qu19 | apply qx19 | refine qi19 ?_ ap.out _ | refine qi19 ?_ an.out _) | exact HI0.out)) (by (with_reducible repeat (first | apply Kd.R_alloc | apply Kd.R_drewN | apply Kd.R_drew)); exact (qk19 (qf19 (p := ⟨ac, 4, none⟩) (qf19 (p := ⟨ac, 3, none⟩) (qf19 (p := ⟨ac, 2, none⟩) (qf19 (p := ⟨ac, 1, none⟩) (qf19 (p := ⟨ac, 0, none⟩) (Kd.R_types ag.out aa.out (by decide)) (fun _ hk => hk.2) (.slice aV ah.length aW)) (fun _ hk => hk.2) (.int .i64 ai)) (fun _ hk => hk.2) (.int .i64 aj)) (fun _ hk => hk.2) (.slice bz af.length bA)) (fun _ hk => hk.2) (.int .i64 al)) (fun _ h_ => h_.1))) (by decide)) hk (fun _ h => h.2)) (fun _ h => h.1)); have n2_ := qa19 (qq19 (qA19 (qs19 (show IsS71 w0 _ g s0_0 ax from by repeat (first | (with_reducible first | exact HI0.out | apply qv19 | apply qw19 | apply qu19 | apply qx19 | refine qi19 ?_ ap.out _ | refine qi19 ?_ an.out _) | exact HI0.out)) (by (with_reducible repeat (first | apply Kd.S_alloc | apply Kd.S_drewN | apply Kd.S_drew)); exact (qq19 (qg19 (p := ⟨ac, 4, none⟩) (qg19 (p := ⟨ac, 3, none⟩) (qg19 (p := ⟨ac, 2, none⟩) (qg19 (p := ⟨ac, 1, none⟩) (qg19 (p := ⟨ac, 0, none⟩) (Kd.S_types ae.out aa.out (by decide)) (fun _ hk => hk.2) (.slice aV ah.length aW)) (fun _ hk => hk.2) (.int .i64 ai)) (fun _ hk => hk.2) (.int .i64 aj)) (fun _ hk => hk.2) (.slice bz af.length bA)) (fun _ hk => hk.2) (.int .i64 al)) (fun _ h_ => h_.1))) (by decide)) hk (fun _ h => h.2)) (fun _ h => h.1)); have n3_ := qa19 (qe19 hk (g' := ac) (o := .cells #[.slice aV ah.length aW, .int .i64 ai, .int .i64 aj, .slice bz af.length bA, .int .i64 al] 26 (0, 0)) (by (with_reducible repeat (first | apply qo19 | apply qm19 | apply qj19)); refine blk_put (cs := #[.slice aV ah.length aW, .int .i64 ai, .int .i64 aj, .slice bz af.length bA, .int .i64 0]) ?_ 4 _ rfl; refine blk_put (cs := #[.slice aV ah.length aW, .int .i64 ai, .int .i64 aj, .slice none 0 0, .int .i64 0]) ?_ 3 _ rfl; refine blk_put (cs := #[.slice aV ah.length aW, .int .i64 ai, .int .i64 0, .slice none 0 0, .int .i64 0]) ?_ 2 _ rfl; refine blk_put (cs := #[.slice aV ah.length aW, .int .i64 0, .int .i64 0, .slice none 0 0, .int .i64 0]) ?_ 1 _ rfl; refine blk_put (cs := #[.slice none 0 0, .int .i64 0, .int .i64 0, .slice none 0 0, .int .i64 0]) ?_ 0 _ rfl; (with_reducible repeat (first | apply qo19 | apply qm19 | apply qj19)); exact aa.out) ao.out (by simp)); have n4_ := qa19 (qd19 (by repeat (first | (with_reducible first | exact HK.out | apply qE19 | apply keep_drewN | apply keep_drew | apply keep_alloc | refine qz19 ?_ aC.out _ | refine qz19 ?_ aD.out _) | exact HK.out)) hk (.inl rfl)); have n5_ := qa19 (hb); have n6_ := qa19 (hi); replace ab := n0_; replace ag := n1_; replace ae := n2_; replace aa := n3_; replace HK := n4_; replace HB := n5_; replace HI0 := n6_; clear n0_ n1_ n2_ n3_ n4_ n5_ n6_; (try clear hb hk hi); have dn := bq19_ aa.out 0 rfl; have ev := bq19_ aa.out 1 rfl; have dk := bq19_ aa.out 2 rfl; have dZ := bq19_ aa.out 3 rfl; have du := bq19_ aa.out 4 rfl; have et := qb19 aa.out 0; have d9 := qb19 aa.out 1; have d6 := qb19 aa.out 2; have dB := qb19 aa.out 3; have em := qb19 aa.out 4) | ((with_reducible refine gate_callee (f := 34) rfl ?_); refine goesL_ (some 18) rfl rfl Tryd.func34 (by kernel_rfl) rfl #[.pointer (some ⟨g, 0, none⟩), .int .i64 (af.length : Int)] rfl (by (try simp only [qh19, ql19, qp19]) <;> rfl) ?_; (with_reducible refine (spec_l20Rd_pick.calls k g s0_0 aX (af.length : Int) aq aY w0 _ ?side1 ?side2 A18.out).mono ?_); (case side1 => exact HI0.out); (case side2 => exact HB.out); rintro e w168 ⟨rfl, hi, hb, hk⟩; refine ⟨_, rfl, ?_⟩; have n0_ := qa19 (qe19 hk (g' := ad) (o := .cells #[.slice none 0 0, .int .i64 0, .int .i64 0, .slice none 0 0, .int .i64 0] 26 (0, 0)) ab.out am.out (by simp)); have n1_ := qa19 (qk19 (qy19 (qr19 (show IsS71 w0 _ g s0_0 aX from HI0.out) ag.out (by decide)) hk (fun _ h => h.2)) (fun _ h => h.1)); have n2_ := qa19 (qq19 (qA19 (qs19 (show IsS71 w0 _ g s0_0 aX from HI0.out) ae.out (by decide)) hk (fun _ h => h.2)) (fun _ h => h.1)); have n3_ := qa19 (qe19 hk (g' := ac) (o := .cells #[.slice aV ah.length aW, .int .i64 ai, .int .i64 aj, .slice bz af.length bA, .int .i64 al] 26 (0, 0)) aa.out ao.out (by simp)); have n4_ := qa19 (qd19 HK.out hk (.inl rfl)); have n5_ := qa19 (hb); have n6_ := qa19 (hi); replace ab := n0_; replace ag := n1_; replace ae := n2_; replace aa := n3_; replace HK := n4_; replace HB := n5_; replace HI0 := n6_; clear n0_ n1_ n2_ n3_ n4_ n5_ n6_; (try clear hb hk hi)) | ((with_reducible refine gate_callee (f := 34) rfl ?_); refine goesL_ (some 20) rfl rfl Tryd.func34 (by kernel_rfl) rfl #[.pointer (some ⟨g, 0, none⟩), .int .i64 6] rfl (by (try simp only [qh19, ql19, qp19]) <;> rfl) ?_; (with_reducible refine (spec_l20Rd_pick.calls k g s0_0 aY 6 aE av w0 _ ?side1 ?side2 A19.out).mono ?_); (case side1 => exact HI0.out); (case side2 => exact HB.out); rintro e w169 ⟨rfl, hi, hb, hk⟩; refine ⟨_, rfl, ?_⟩; have n0_ := qa19 (qe19 hk (g' := ad) (o := .cells #[.slice none 0 0, .int .i64 0, .int .i64 0, .slice none 0 0, .int .i64 0] 26 (0, 0)) ab.out am.out (by simp)); have n1_ := qa19 (qk19 (qy19 (qr19 (show IsS71 w0 _ g s0_0 aY from HI0.out) ag.out (by decide)) hk (fun _ h => h.2)) (fun _ h => h.1)); have n2_ := qa19 (qq19 (qA19 (qs19 (show IsS71 w0 _ g s0_0 aY from HI0.out) ae.out (by decide)) hk (fun _ h => h.2)) (fun _ h => h.1)); have n3_ := qa19 (qe19 hk (g' := ac) (o := .cells #[.slice aV ah.length aW, .int .i64 ai, .int .i64 aj, .slice bz af.length bA, .int .i64 al] 26 (0, 0)) aa.out ao.out (by simp)); have n4_ := qa19 (qd19 HK.out hk (.inl rfl)); have n5_ := qa19 (hb); have n6_ := qa19 (hi); replace ab := n0_; replace ag := n1_; replace ae := n2_; replace aa := n3_; replace HK := n4_; replace HB := n5_; replace HI0 := n6_; clear n0_ n1_ n2_ n3_ n4_ n5_ n6_; (try clear hb hk hi)))
       go_loopg [] k (fun kq w' => ∃ (au : List (S32)) (b3 : Value), Aside0 (spec_l20AnyTable.l0 kq s0_0 av ah ai aj au al = some (r1, r2, r3, r4, r5, r6)) ∧ Aside0 (kq ≤ k) ∧ Aside0 (Kd.R k29 29 w' w.heap.size (fun _ => True) (.slice aV ah.length aW) ah) ∧ Aside0 (Kd.S k32 32 w' w.heap.size (fun _ => True) b3 au) ∧ Aside0 (w'.heap[ad]? = some (.cells #[(.slice none 0 0), .int .i64 0, .int .i64 0, (.slice none 0 0), .int .i64 0] 26 (0, 0))) ∧ Aside0 (w'.heap[ac]? = some (.cells #[(.slice aV ah.length aW), .int .i64 ai, .int .i64 aj, b3, .int .i64 al] 26 (0, 0))) ∧ Aside0 (IsS71 w0 w' g s0_0 av) ∧ Aside0 (KeepBut w w' g none) ∧ Aside0 (Below w0.heap.size w0 w'))
       case atStart => exact ⟨(af), (.slice bz af.length bA), H', ⟨Nat.le_refl _⟩, ⟨by (with_reducible repeat (first | apply Kd.R_alloc | apply Kd.R_drewN | apply Kd.R_drew)); exact ag.out⟩, ⟨by (with_reducible repeat (first | apply Kd.S_alloc | apply Kd.S_drewN | apply Kd.S_drew)); exact ae.out⟩, ⟨by (with_reducible repeat (first | apply qo19 | apply qm19 | apply qj19)); exact ab.out⟩, ⟨by (with_reducible repeat (first | apply qo19 | apply qm19 | apply qj19)); exact aa.out⟩, ⟨by repeat (first | (with_reducible first | exact HI0.out | apply qv19 | apply qw19 | apply qu19 | apply qx19 | refine qi19 ?_ ap.out _ | refine qi19 ?_ an.out _) | exact HI0.out)⟩, ⟨by repeat (first | (with_reducible first | exact HK.out | apply qE19 | apply keep_drewN | apply keep_drew | apply keep_alloc | refine qz19 ?_ aC.out _ | refine qz19 ?_ aD.out _) | exact HK.out)⟩, ⟨by repeat (first | (with_reducible first | exact HB.out | apply below_alloc | apply qC19 | apply qD19 | refine qn19 ?_ (IsS71.ge HI0.out) | refine qn19 ?_ aH.out | refine qn19 ?_ aG.out) | exact HB.out)⟩⟩
       case round =>
        clear H'
        try clear c1
        try clear p1
        try clear q1
        try clear hx1
        try clear p2
        try clear c3
        try clear p3
        try clear q3
        try clear hx3
        try clear c4
        try clear c9
        try clear c10
        try clear c12
        try clear c13
        try clear p13
        try clear q13
        try clear c14
        try clear c15
        try clear hx15
        try clear hf15
        try clear c16
        try clear c19
        try clear c33
        try clear p33
        try clear q33
        try clear hx33
        try clear c34
        try clear c40
        try clear c41
        try clear c97
        try clear eL
        try clear eU
        try clear c100
        try clear c101
        try clear c102
        try clear c127
        try clear c129
        try clear de
        try clear c0
        try clear c130
        try clear fi
        try clear c131
        try clear e7
        try clear c133
        try clear cQ
        try clear cL
        try clear c139
        try clear c140
        try clear c149
        try clear c151
        try clear hx151
        try clear hf151
        try clear c156
        try clear c162
        try clear c163
        try clear dE
        try clear dI
        try clear dj
        try clear d1
        try clear dr
        try clear el
        try clear dg
        try clear d5
        try clear dO
        try clear eA
        try clear ei
        try clear dN
        try clear dC
        try clear d8
        try clear dv
        try clear d2
        try clear es
        try clear ed
        try clear d0
        try clear eo
        try clear dY
        try clear dt
        try clear dL
        try clear ej
        try clear dQ
        try clear er
        try clear dX
        try clear dU
        try clear eb
        try clear dx
        try clear d3
        try clear dh
        try clear ec
        try clear dK
        try clear dy
        try clear dn
        try clear ev
        try clear dk
        try clear dZ
        try clear du
        try clear dw
        try clear ee
        try clear ey
        try clear ex
        try clear dF
        try clear eB
        try clear df
        try clear d4
        try clear eh
        try clear dR
        try clear dp
        try clear dq
        try clear eg
        try clear dT
        try clear di
        try clear dm
        try clear dz
        try clear ew
        try clear dG
        try clear dV
        try clear dP
        try clear dA
        try clear dS
        try clear dM
        try clear ep
        try clear dW
        try clear en
        try clear ef
        try clear dJ
        try clear ek
        try clear dl
        try clear ez
        try clear dH
        try clear d7
        try clear dD
        try clear et
        try clear d9
        try clear d6
        try clear dB
        try clear em
        try clear b0
        try clear cC
        try clear bs
        try clear bH
        try clear cQ
        try clear fe
        try clear cl
        try clear cL
        try clear fc
        try clear cz
        obtain ⟨au, b3, HA, HK1, bt, aZ, ab, aa, HI0, HK, HB⟩ := hrel
        cases gk with
        | zero => exact absurd HA.out (by simp [spec_l20AnyTable.l0])
        | succ k1 =>
         have H := HA.out
         clear HA
         simp only [spec_l20AnyTable.l0] at H
         by_cases c170 : (au.length : Int) ≤ 8
         ·rw [if_pos c170] at H
          have e9 : decide ((au.length : Int) ≤ 8) = true := decide_eq_true c170
          have e3 : decide (au.length ≤ 8) = true := decide_eq_true (by omega)
          clear c170
          by_cases c171 : au.length < 4398046511104
          ·rw [if_pos c171] at H
           have e2 := qa19 c171
           clear c171
           obtain ⟨cA, bP⟩ : ∃ y_ : List (S32), y_ = (au ++ [(⟨([] : List (S37)), false⟩ : S32)]) := ⟨_, rfl⟩
           replace H : (spec_l20AnyTable.l0 k1 s0_0 av ah ai aj cA al) = some (r1, r2, r3, r4, r5, r6) := by first | (rw [bP]; with_reducible exact H) | (have H2_ := (Option.bind_some _ _).symm.trans H; rw [bP]; with_reducible exact H2_) | (have H2_ := (Option.bind_some _ _).symm.trans H; with_reducible exact H2_) | with_reducible exact H | (rw [bP]; exact H) | exact H
           have fq := qa19 bP
           clear bP
           have H' := qa19 H
           clear H
           have lo := ar.out
           have lp := ak.out
           have lK := ao.out
           have lE := an.out
           have g1 := bq19_ aa.out 0 rfl
           have gf := bq19_ aa.out 1 rfl
           have fS := bq19_ aa.out 2 rfl
           have hc := bq19_ aa.out 3 rfl
           have fV := bq19_ aa.out 4 rfl
           have hE := qb19 aa.out 0
           have g8 := qb19 aa.out 1
           have gj := qb19 aa.out 2
           have fT := qb19 aa.out 3
           have gx := qb19 aa.out 4
           obtain ⟨cH, cI, fI⟩ := Kd.S_slice aZ.out
           subst fI
           go_wp2_with (first | ((with_reducible refine gate_builtin (b := .append) (xs := #[.tmp 26, .tmp 28]) rfl ?_); at_builtin; refine Kd.S_append k32 w.heap.size rfl (.tmp 26) (.tmp 28) 24 32 (.agg #[(.slice none 0 0), (.bool false)]) 32 rfl Tryd.underlying24 info32 rfl (by decide) (by omega) (.slice cH au.length cI) au (⟨([] : List (S37)), false⟩ : S32) [.slice none 0 0, .bool false] (fun _ => True) (fun _ => False) rfl rfl ?aP (fun k_ hk_ => hk_.elim) ?aF ?aO (Below.refl _ _) ?aS ?aL ?_; (case aP => exact k32_mkM _ _ _ (⟨([] : List (S37)), false⟩ : S32) (Kd.R_nil _ _ _ _ _)); (case aF => exact (fun _ _ => trivial)); (case aO => exact (by (with_reducible repeat (first | apply Kd.S_alloc | apply Kd.S_drewN | apply Kd.S_drew)); exact qq19 aZ.out (fun k_ hk => ⟨trivial, fun e_ => e_⟩))); (case aS => exact (keep_size (w := w) (g := g) (row := none) HK.out)); (case aL => have := e2.out; omega); intro v357 w176 ho hb hg hat; rw [← fq.out] at ho; have n0_ := qa19 (Kd.R_over' bt.out (Kd.S_typed aZ.out) (by decide) hg); have n1_ := qa19 (blk_grown (g := ad) (o := .cells #[.slice none 0 0, .int .i64 0, .int .i64 0, .slice none 0 0, .int .i64 0] 26 (0, 0)) ab.out hg (Kd.S_ne aZ.out ab.out (by decide))); have n2_ := qa19 (blk_grown (g := ac) (o := .cells #[.slice aV ah.length aW, .int .i64 ai, .int .i64 aj, .slice cH au.length cI, .int .i64 al] 26 (0, 0)) aa.out hg (Kd.S_ne aZ.out aa.out (by decide))); have n3_ := qa19 (IsS71.grown HI0.out hg (IsS71.own_neS HI0.out aZ.out (by decide))); have n4_ := qa19 (below_weaken HB.out HL.out hb); have n5_ := qa19 (qd19 HK.out (KeepBut.of_grown hg g) (Kd.S_base2 aZ.out)); have n6_ := qa19 (ho); clear aZ; replace bt := n0_; replace ab := n1_; replace aa := n2_; replace HI0 := n3_; replace HB := n4_; replace HK := n5_; have eK := n6_; clear n0_ n1_ n2_ n3_ n4_ n5_ n6_; clear ho hb hg hat; obtain ⟨cO, cU, fz⟩ := Kd.S_slice eK.out; subst fz; have hw := bq19_ aa.out 0 rfl; have hf := bq19_ aa.out 1 rfl; have fW := bq19_ aa.out 2 rfl; have f9 := bq19_ aa.out 3 rfl; have f2 := bq19_ aa.out 4 rfl; have gh := qb19 aa.out 0; have gW := qb19 aa.out 1; have hl := qb19 aa.out 2; have go := qb19 aa.out 3; have gq := qb19 aa.out 4))
           go_roundg k1
           case measure => have := HK1.out; omega
           case rel => exact ⟨(cA), (.slice cO cA.length cU), H', ⟨by have := HK1.out; omega⟩, ⟨by (with_reducible repeat (first | apply Kd.R_alloc | apply Kd.R_drewN | apply Kd.R_drew)); exact qk19 (qf19 (p := ⟨ac, 3, none⟩) (Kd.R_types bt.out aa.out (by decide)) (fun _ hk => hk.2) (.slice cO cA.length cU)) (fun _ hk => trivial)⟩, ⟨by (with_reducible repeat (first | apply Kd.S_alloc | apply Kd.S_drewN | apply Kd.S_drew)); exact qq19 (qg19 (p := ⟨ac, 3, none⟩) (Kd.S_types eK.out aa.out (by decide)) (fun _ hk => hk.2) (.slice cO cA.length cU)) (fun _ hk => trivial)⟩, ⟨by (with_reducible repeat (first | apply qo19 | apply qm19 | apply qj19)); refine blk_far ?_ ak.out _; (with_reducible repeat (first | apply qo19 | apply qm19 | apply qj19)); exact ab.out⟩, ⟨by (with_reducible repeat (first | apply qo19 | apply qm19 | apply qj19)); refine blk_put (cs := #[.slice aV ah.length aW, .int .i64 ai, .int .i64 aj, .slice cH au.length cI, .int .i64 al]) ?_ 3 _ rfl; (with_reducible repeat (first | apply qo19 | apply qm19 | apply qj19)); exact aa.out⟩, ⟨by repeat (first | (with_reducible first | exact HI0.out | apply qv19 | apply qw19 | apply qu19 | apply qx19 | refine qi19 ?_ ap.out _ | refine qi19 ?_ an.out _) | exact HI0.out)⟩, ⟨by repeat (first | (with_reducible first | exact HK.out | apply qE19 | apply keep_drewN | apply keep_drew | apply keep_alloc | refine qz19 ?_ aC.out _ | refine qz19 ?_ aD.out _) | exact HK.out)⟩, ⟨by repeat (first | (with_reducible first | exact HB.out | apply below_alloc | apply qC19 | apply qD19 | refine qn19 ?_ (IsS71.ge HI0.out) | refine qn19 ?_ aH.out | refine qn19 ?_ aG.out) | exact HB.out)⟩⟩
          ·rw [if_neg c171] at H
           exact absurd H (by simp)
         ·rw [if_neg c170] at H
          have e9 : decide ((au.length : Int) ≤ 8) = false := decide_eq_false c170
          have e3 : decide (au.length ≤ 8) = false := decide_eq_false (by omega)
          clear c170
          simp only [Option.some.injEq, Prod.mk.injEq] at H
          obtain ⟨rfl, rfl, rfl, rfl, rfl, rfl⟩ := H
          have lm := ar.out
          have lL := ak.out
          have lA := ao.out
          have lN := an.out
          have hm := bq19_ aa.out 0 rfl
          have gp := bq19_ aa.out 1 rfl
          have g4 := bq19_ aa.out 2 rfl
          have f6 := bq19_ aa.out 3 rfl
          have g2 := bq19_ aa.out 4 rfl
          have hH := qb19 aa.out 0
          have ga := qb19 aa.out 1
          have gG := qb19 aa.out 2
          have gA := qb19 aa.out 3
          have hG := qb19 aa.out 4
          obtain ⟨b5, b6, fp⟩ := Kd.S_slice aZ.out
          subst fp
          have lq := am.out
          have lC := ap.out
          have he := bq19_ ab.out 0 rfl
          have hh := bq19_ ab.out 1 rfl
          have hL := bq19_ ab.out 2 rfl
          have gz := bq19_ ab.out 3 rfl
          have ht := bq19_ ab.out 4 rfl
          have fY := qb19 ab.out 0
          have gJ := qb19 ab.out 1
          have gB := qb19 ab.out 2
          have ha := qb19 ab.out 3
          have hC := qb19 ab.out 4
          go_wp2
          refine bodyPost_ret (results_cell_row rfl _ _ ad 26 #[.slice aV ah.length aW, .int .i64 ai, .int .i64 aj, .slice b5 au.length b6, .int .i64 al] (0, 0) _ rfl (by (with_reducible repeat (first | apply qo19 | apply qm19 | apply qj19)); refine blk_put (cs := #[.slice aV ah.length aW, .int .i64 ai, .int .i64 aj, .slice b5 au.length b6, .int .i64 0]) ?_ 4 _ rfl; refine blk_put (cs := #[.slice aV ah.length aW, .int .i64 ai, .int .i64 aj, .slice none 0 0, .int .i64 0]) ?_ 3 _ rfl; refine blk_put (cs := #[.slice aV ah.length aW, .int .i64 ai, .int .i64 0, .slice none 0 0, .int .i64 0]) ?_ 2 _ rfl; refine blk_put (cs := #[.slice aV ah.length aW, .int .i64 0, .int .i64 0, .slice none 0 0, .int .i64 0]) ?_ 1 _ rfl; refine blk_put (cs := #[.slice none 0 0, .int .i64 0, .int .i64 0, .slice none 0 0, .int .i64 0]) ?_ 0 _ rfl; (with_reducible repeat (first | apply qo19 | apply qm19 | apply qj19)); exact ab.out) Tryd.underlying26 rfl (by kernel_rfl)) rfl ?_
          exact ⟨_, _, by first | rfl | (simp [errW_none, errW_some] <;> rfl) | (simp [*, errW_none, errW_some] <;> rfl), by (with_reducible repeat (first | apply Kd.R_alloc | apply Kd.R_drewN | apply Kd.R_drew)); exact qk19 (qf19 (p := ⟨ad, 4, none⟩) (qf19 (p := ⟨ad, 3, none⟩) (qf19 (p := ⟨ad, 2, none⟩) (qf19 (p := ⟨ad, 1, none⟩) (qf19 (p := ⟨ad, 0, none⟩) (Kd.R_types bt.out ab.out (by decide)) (fun _ hk => hk.2) (.slice aV ah.length aW)) (fun _ hk => hk.2) (.int .i64 ai)) (fun _ hk => hk.2) (.int .i64 aj)) (fun _ hk => hk.2) (.slice b5 au.length b6)) (fun _ hk => hk.2) (.int .i64 al)) (fun _ hk => trivial), by (with_reducible repeat (first | apply Kd.S_alloc | apply Kd.S_drewN | apply Kd.S_drew)); exact qq19 (qg19 (p := ⟨ad, 4, none⟩) (qg19 (p := ⟨ad, 3, none⟩) (qg19 (p := ⟨ad, 2, none⟩) (qg19 (p := ⟨ad, 1, none⟩) (qg19 (p := ⟨ad, 0, none⟩) (Kd.S_types aZ.out ab.out (by decide)) (fun _ hk => hk.2) (.slice aV ah.length aW)) (fun _ hk => hk.2) (.int .i64 ai)) (fun _ hk => hk.2) (.int .i64 aj)) (fun _ hk => hk.2) (.slice b5 au.length b6)) (fun _ hk => hk.2) (.int .i64 al)) (fun _ hk => trivial), by repeat (first | (with_reducible first | exact HI0.out | apply qv19 | apply qw19 | apply qu19 | apply qx19 | refine qi19 ?_ ap.out _ | refine qi19 ?_ an.out _) | exact HI0.out), by repeat (first | (with_reducible first | exact HB.out | apply below_alloc | apply qC19 | apply qD19 | refine qn19 ?_ (IsS71.ge HI0.out) | refine qn19 ?_ aH.out | refine qn19 ?_ aG.out) | exact HB.out), by repeat (first | (with_reducible first | exact HK.out | apply qE19 | apply keep_drewN | apply keep_drew | apply keep_alloc | refine qz19 ?_ aC.out _ | refine qz19 ?_ aD.out _) | exact HK.out)⟩
end Go.Proofs.YtnednnnegofhkaaDoor.Pr
