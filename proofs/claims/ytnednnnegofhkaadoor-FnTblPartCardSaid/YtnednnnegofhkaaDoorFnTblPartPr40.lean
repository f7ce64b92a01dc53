/- A part of what the claim of 'FnTblPart' leans on. -/
import Derived.Test.YtnednnnegofhkaaDoorFnTblPartP0
import Derived.Test.YtnednnnegofhkaaDoorFnTblPartP3
import Derived.Test.YtnednnnegofhkaaDoorFnTblPartP1
import Derived.Test.YtnednnnegofhkaaDoorFnTblPartPr41
namespace Go.Proofs.YtnednnnegofhkaaDoor.Pr
open Go.RowKit Go.Proofs.YtnednnnegofhkaaDoorW.PrintWords Go.Proofs.YtnednnnegofhkaaDoorW.PrintLast Go.Proofs.YtnednnnegofhkaaDoorW.PrintMore
attribute [local go_sem] max2_int min2_int max_two min_two max_three min_three max_four min_four
set_option linter.unusedVariables false
set_option linter.unusedSimpArgs false
mutual
def spec_l20Table.l0 : Nat → Int → List Int → Int → List (S29) → Int → Int → Int → Option ((List (S29)) × Int × Int × (List (S32)) × Int × Int)
  | 0, _, _, _, _, _, _, _ => none
  | k + 1, x4, x1000, x1001, x230000, x230001, x230002, x230004 => if x4 > 0 then ((spec_l20Rd_pick.f k x1000 x1001 30).bind fun bt232 => ((some (([10, 25, 50, 100] : List Int) : List Int)).bind fun y234 => ((spec_l20Rd_pick.f k x1000 bt232.2 4).bind fun bt237 => (if 0 ≤ bt237.1 then (if bt237.1 < (y234.length : Int) then ((some (([(⟨0, 0⟩ : S29), (⟨0, 0⟩ : S29), (⟨1, bt232.1⟩ : S29), (⟨2, rd y234 bt237.1⟩ : S29)] : List (S29)) : List (S29))).bind fun y240 => ((spec_l20Rd_pick.f k x1000 bt237.2 4).bind fun bt243 => (if 0 ≤ bt243.1 then (if bt243.1 < (y240.length : Int) then (if x230000.length < 8796093022208 then (spec_l20Table.l0 k (wrap64 (x4 - 1)) x1000 bt243.2 (x230000 ++ [(⟨(rd_T29 y240 bt243.1).f0, (rd_T29 y240 bt243.1).f1⟩ : S29)]) x230001 x230002 x230004) else (none)) else (none)) else (none)))) else (none)) else (none))))) else ((spec_l20Rd_pick.f k x1000 x1001 6).bind fun bt249 => (spec_l20Table.l1 k (wrap64 (1 + bt249.1)) 0 x1000 bt249.2 x230000 x230001 x230002 ([] : List (S32)) x230004))
def spec_l20Table.l1 : Nat → Int → Int → List Int → Int → List (S29) → Int → Int → List (S32) → Int → Option ((List (S29)) × Int × Int × (List (S32)) × Int × Int)
  | 0, _, _, _, _, _, _, _, _, _ => none
  | k + 1, x5, x6, x1000, x1001, x230000, x230001, x230002, x230003, x230004 => if x6 < x5 then ((spec_l20Rd_pick.f k x1000 x1001 4).bind fun bt251 => ((spec_l20Rd_pick.f k x1000 bt251.2 5).bind fun bt254 => (spec_l20Table.l2 k x5 x6 bt254.1 x1000 bt254.2 x230000 x230001 x230002 x230003 x230004 ([] : List (S37)) (bt251.1 == 0)))) else ((spec_l20Rd_pick.f k x1000 x1001 2).bind fun bt274 => (if bt274.1 = 0 then ((spec_l20Rd_pick.f k x1000 bt274.2 2).bind fun bt276 => ((spec_l20Rd_pick.f k x1000 bt276.2 2).bind fun bt278 => (if (wrap64 (bt276.1 + bt278.1)) > x5 then ((spec_TblOk.f k x230000 bt276.1 0 x230003 x230004).bind fun t280 => (if t280 = true then (some (x230000, bt276.1, 0, x230003, x230004, bt278.2)) else (some (([] : List (S29)), 0, 0, (([(⟨([] : List (S37)), false⟩ : S32)] : List (S32))), 0, bt278.2)))) else ((spec_TblOk.f k x230000 bt276.1 bt278.1 x230003 x230004).bind fun t284 => (if t284 = true then (some (x230000, bt276.1, bt278.1, x230003, x230004, bt278.2)) else (some (([] : List (S29)), 0, 0, (([(⟨([] : List (S37)), false⟩ : S32)] : List (S32))), 0, bt278.2))))))) else ((spec_TblOk.f k x230000 x230001 x230002 x230003 x230004).bind fun t288 => (if t288 = true then (some (x230000, x230001, x230002, x230003, x230004, bt274.2)) else (some (([] : List (S29)), 0, 0, (([(⟨([] : List (S37)), false⟩ : S32)] : List (S32))), 0, bt274.2))))))
def spec_l20Table.l2 : Nat → Int → Int → Int → List Int → Int → List (S29) → Int → Int → List (S32) → Int → List (S37) → Bool → Option ((List (S29)) × Int × Int × (List (S32)) × Int × Int)
  | 0, _, _, _, _, _, _, _, _, _, _, _, _ => none
  | k + 1, x5, x6, x8, x1000, x1001, x230000, x230001, x230002, x230003, x230004, x254000, x254001 => if x8 > 0 then ((spec_l20Cell.f k x1000 x1001 99999).bind fun bt256 => (if x254000.length < 1466015503701 then (spec_l20Table.l2 k x5 x6 (wrap64 (x8 - 1)) x1000 bt256.2.2.2.2.2.2.2.2.2.2.2 x230000 x230001 x230002 x230003 x230004 (x254000 ++ [(⟨bt256.1, bt256.2.1, bt256.2.2.1, (⟨bt256.2.2.2.1, bt256.2.2.2.2.1⟩ : S35), (⟨bt256.2.2.2.2.2.1, bt256.2.2.2.2.2.2.1⟩ : S35), (⟨bt256.2.2.2.2.2.2.2.1, bt256.2.2.2.2.2.2.2.2.1⟩ : S35), (⟨bt256.2.2.2.2.2.2.2.2.2.1, bt256.2.2.2.2.2.2.2.2.2.2.1⟩ : S35)⟩ : S37)]) x254001) else (none))) else (if x230003.length < 4398046511104 then (spec_l20Table.l1 k x5 (wrap64 (x6 + 1)) x1000 x1001 x230000 x230001 x230002 (x230003 ++ [(⟨x254000, x254001⟩ : S32)]) x230004) else (none))
end
def spec_l20Table.f (k : Nat) (s0_0 : List Int) (s0_1 : Int) : Option ((List (S29)) × Int × Int × (List (S32)) × Int × Int) := (spec_l20Rd_pick.f k s0_0 s0_1 4).bind fun bt227 => ((spec_l20Rd_pick.f k s0_0 bt227.2 6).bind fun bt230 => (spec_l20Table.l0 k bt230.1 s0_0 bt230.2 ([] : List (S29)) 0 0 bt227.1))
theorem spec_l20Table.mono_l : ∀ k, (∀ y0 y1 y2 y3 y4 y5 y6, LeO (spec_l20Table.l0 k y0 y1 y2 y3 y4 y5 y6) (spec_l20Table.l0 (k + 1) y0 y1 y2 y3 y4 y5 y6)) ∧ (∀ y0 y1 y2 y3 y4 y5 y6 y7 y8, LeO (spec_l20Table.l1 k y0 y1 y2 y3 y4 y5 y6 y7 y8) (spec_l20Table.l1 (k + 1) y0 y1 y2 y3 y4 y5 y6 y7 y8)) ∧ (∀ y0 y1 y2 y3 y4 y5 y6 y7 y8 y9 y10 y11, LeO (spec_l20Table.l2 k y0 y1 y2 y3 y4 y5 y6 y7 y8 y9 y10 y11) (spec_l20Table.l2 (k + 1) y0 y1 y2 y3 y4 y5 y6 y7 y8 y9 y10 y11))
  | 0 => ⟨fun _ _ _ _ _ _ _ r h => by simp [spec_l20Table.l0] at h, fun _ _ _ _ _ _ _ _ _ r h => by simp [spec_l20Table.l1] at h, fun _ _ _ _ _ _ _ _ _ _ _ _ r h => by simp [spec_l20Table.l2] at h⟩
  | k + 1 => by
    obtain ⟨ih0, ih1, ih2⟩ := spec_l20Table.mono_l k
    refine ⟨?_, ?_, ?_⟩
    · intro y0 y1 y2 y3 y4 y5 y6
      unfold spec_l20Table.l0
      repeat' first
      | (with_reducible exact ih0 _ _ _ _ _ _ _)
      | (with_reducible exact ih1 _ _ _ _ _ _ _ _ _)
      | (with_reducible exact ih2 _ _ _ _ _ _ _ _ _ _ _ _)
      | (with_reducible exact spec_TblOk.mono _ _ _ _ _ _)
      | (with_reducible exact spec_l20Cell.mono _ _ _ _)
      | (with_reducible exact spec_l20Rd_pick.mono _ _ _ _)
      | (with_reducible exact LeO.refl _)
      | (with_reducible exact LeO.none _)
      | (with_reducible refine LeO.ite ?_ ?_)
      | (with_reducible refine LeO.bind ?_ (fun _ => ?_))
      | exact ih0 _ _ _ _ _ _ _
      | exact ih1 _ _ _ _ _ _ _ _ _
      | exact ih2 _ _ _ _ _ _ _ _ _ _ _ _
      | exact spec_TblOk.mono _ _ _ _ _ _
      | exact spec_l20Cell.mono _ _ _ _
      | exact spec_l20Rd_pick.mono _ _ _ _
      | exact LeO.none _
      | refine LeO.ite ?_ ?_
      | refine LeO.bind ?_ (fun _ => ?_)
    · intro y0 y1 y2 y3 y4 y5 y6 y7 y8
      unfold spec_l20Table.l1
      repeat' first
      | (with_reducible exact ih0 _ _ _ _ _ _ _)
      | (with_reducible exact ih1 _ _ _ _ _ _ _ _ _)
      | (with_reducible exact ih2 _ _ _ _ _ _ _ _ _ _ _ _)
      | (with_reducible exact spec_TblOk.mono _ _ _ _ _ _)
      | (with_reducible exact spec_l20Cell.mono _ _ _ _)
      | (with_reducible exact spec_l20Rd_pick.mono _ _ _ _)
      | (with_reducible exact LeO.refl _)
      | (with_reducible exact LeO.none _)
      | (with_reducible refine LeO.ite ?_ ?_)
      | (with_reducible refine LeO.bind ?_ (fun _ => ?_))
      | exact ih0 _ _ _ _ _ _ _
      | exact ih1 _ _ _ _ _ _ _ _ _
      | exact ih2 _ _ _ _ _ _ _ _ _ _ _ _
      | exact spec_TblOk.mono _ _ _ _ _ _
      | exact spec_l20Cell.mono _ _ _ _
      | exact spec_l20Rd_pick.mono _ _ _ _
      | exact LeO.none _
      | refine LeO.ite ?_ ?_
      | refine LeO.bind ?_ (fun _ => ?_)
    · intro y0 y1 y2 y3 y4 y5 y6 y7 y8 y9 y10 y11
      unfold spec_l20Table.l2
      repeat' first
      | (with_reducible exact ih0 _ _ _ _ _ _ _)
      | (with_reducible exact ih1 _ _ _ _ _ _ _ _ _)
      | (with_reducible exact ih2 _ _ _ _ _ _ _ _ _ _ _ _)
      | (with_reducible exact spec_TblOk.mono _ _ _ _ _ _)
      | (with_reducible exact spec_l20Cell.mono _ _ _ _)
      | (with_reducible exact spec_l20Rd_pick.mono _ _ _ _)
      | (with_reducible exact LeO.refl _)
      | (with_reducible exact LeO.none _)
      | (with_reducible refine LeO.ite ?_ ?_)
      | (with_reducible refine LeO.bind ?_ (fun _ => ?_))
      | exact ih0 _ _ _ _ _ _ _
      | exact ih1 _ _ _ _ _ _ _ _ _
      | exact ih2 _ _ _ _ _ _ _ _ _ _ _ _
      | exact spec_TblOk.mono _ _ _ _ _ _
      | exact spec_l20Cell.mono _ _ _ _
      | exact spec_l20Rd_pick.mono _ _ _ _
      | exact LeO.none _
      | refine LeO.ite ?_ ?_
      | refine LeO.bind ?_ (fun _ => ?_)
theorem spec_l20Table.mono : ∀ a0 a1 k, LeO (spec_l20Table.f k a0 a1) (spec_l20Table.f (k + 1) a0 a1) := by
  intro a0 a1 k
  obtain ⟨ih0, ih1, ih2⟩ := spec_l20Table.mono_l k
  unfold spec_l20Table.f
  repeat' first
      | (with_reducible exact ih0 _ _ _ _ _ _ _)
      | (with_reducible exact ih1 _ _ _ _ _ _ _ _ _)
      | (with_reducible exact ih2 _ _ _ _ _ _ _ _ _ _ _ _)
      | (with_reducible exact spec_TblOk.mono _ _ _ _ _ _)
      | (with_reducible exact spec_l20Cell.mono _ _ _ _)
      | (with_reducible exact spec_l20Rd_pick.mono _ _ _ _)
      | (with_reducible exact LeO.refl _)
      | (with_reducible exact LeO.none _)
      | (with_reducible refine LeO.ite ?_ ?_)
      | (with_reducible refine LeO.bind ?_ (fun _ => ?_))
      | exact ih0 _ _ _ _ _ _ _
      | exact ih1 _ _ _ _ _ _ _ _ _
      | exact ih2 _ _ _ _ _ _ _ _ _ _ _ _
      | exact spec_TblOk.mono _ _ _ _ _ _
      | exact spec_l20Cell.mono _ _ _ _
      | exact spec_l20Rd_pick.mono _ _ _ _
      | exact LeO.none _
      | refine LeO.ite ?_ ?_
      | refine LeO.bind ?_ (fun _ => ?_)
def spec_l20Table.T5 : Bool × List (List Nat × List Nat) := (true, [([], []), ([0], [0]), ([], []), ([], []), ([], []), ([4], [4]), ([5], [5]), ([], []), ([], []), ([8, 5], [8]), ([7, 9], [7, 9]), ([10], [10]), ([11], [11]), ([2, 3, 6, 12], [2, 3, 6, 12]), ([], []), ([14, 9], [14]), ([13, 15], [13, 15]), ([16], [16]), ([17], [17]), ([1, 18, 15], [1, 18]), ([0, 1, 2, 3, 4, 5, 6, 7, 8, 9, 10, 11, 12, 13, 14, 15, 16, 17, 18, 19], []), ([20, 19, 19, 0, 1, 2, 3, 4, 5, 6, 7, 8, 9, 10, 11, 12, 13, 14, 15, 16, 17, 18, 19], [19, 20])])
def spec_l20Table.B5 : List Nat := [0, 1, 0, 0, 0, 16, 48, 0, 0, 304, 944, 1968, 4016, 8188, 0, 17200, 65532, 131068, 262140, 524287, 1048575, 2097151]
theorem spec_l20Table.tab5 : rtab .any (opsOf Tryd.f40 5) = spec_l20Table.T5 := by kernel_rfl
theorem spec_l20Table.bits5 : waitsOk spec_l20Table.T5.2 spec_l20Table.B5 = true := by kernel_rfl
def spec_l20Table.T14 : Bool × List (List Nat × List Nat) := (true, [([], []), ([0], [0]), ([], []), ([2], [2]), ([3], [3]), ([1, 4, 3], [1, 4]), ([0, 1, 2, 3, 4, 5], []), ([6, 5, 5, 0, 1, 2, 3, 4, 5], [5, 6])])
def spec_l20Table.B14 : List Nat := [0, 1, 0, 4, 12, 31, 63, 127]
theorem spec_l20Table.tab14 : rtab .any (opsOf Tryd.f40 14) = spec_l20Table.T14 := by kernel_rfl
theorem spec_l20Table.bits14 : waitsOk spec_l20Table.T14.2 spec_l20Table.B14 = true := by kernel_rfl
abbrev m40_0 : Array Bool := #[false, false, false, false, false, false, false, false, false, false, false, false, false, false, false, false, false, false, false, false, false, false]
abbrev m40_1 : Array Bool := #[true, false, false, false, false, false, false, false, false, false, false, false, false, false, false, false, false, false, false, false, false, false]
abbrev m40_2 : Array Bool := #[true, false, true, false, false, false, false, false, false, false, false, false, false, false, false, false, false, false, false, false, false, false]
abbrev m40_3 : Array Bool := #[true, false, true, true, false, false, false, false, false, false, false, false, false, false, false, false, false, false, false, false, false, false]
abbrev m40_4 : Array Bool := #[true, false, true, true, true, false, false, false, false, false, false, false, false, false, false, false, false, false, false, false, false, false]
abbrev m40_5 : Array Bool := #[true, false, true, true, true, false, false, false, true, false, false, false, false, false, false, false, false, false, false, false, false, false]
abbrev m40_6 : Array Bool := #[true, false, true, true, true, false, false, false, true, false, false, false, false, false, true, false, false, false, false, false, false, false]
abbrev m40_7 : Array Bool := #[true, true, true, true, true, false, false, false, true, false, false, false, false, false, true, false, false, false, false, false, false, false]
abbrev m40_8 : Array Bool := #[true, true, true, true, true, true, true, true, true, true, true, true, true, true, true, true, false, false, false, false, false, false]
abbrev m40_9 : Array Bool := #[true, true, true, true, true, true, true, true, true, true, true, true, true, true, true, false, false, false, false, false, false, false]
abbrev m40_10 : Array Bool := #[true, true, true, true, true, true, true, true, true, true, true, true, true, false, true, true, false, false, false, false, false, false]
abbrev m40_11 : Array Bool := #[true, true, true, true, true, true, true, true, true, true, true, true, true, false, true, false, false, false, false, false, false, false]
abbrev m40_12 : Array Bool := #[true, true, true, true, true, true, true, true, true, true, true, false, false, false, true, true, false, false, false, false, false, false]
abbrev m40_13 : Array Bool := #[true, true, true, true, true, true, true, true, true, true, true, false, false, false, true, false, false, false, false, false, false, false]
abbrev m40_14 : Array Bool := #[true, true, true, true, true, true, true, false, true, true, false, false, false, false, true, true, false, false, false, false, false, false]
abbrev m40_15 : Array Bool := #[true, true, true, true, true, true, true, true, true, false, false, false, false, false, true, false, false, false, false, false, false, false]
abbrev m40_16 : Array Bool := #[true, true, true, true, true, true, true, false, true, true, false, false, false, false, true, false, false, false, false, false, false, false]
abbrev m40_17 : Array Bool := #[true, true, true, true, true, true, true, false, true, false, false, false, false, false, true, false, false, false, false, false, false, false]
abbrev m40_18 : Array Bool := #[true, true, true, true, true, false, false, true, true, false, false, false, false, false, true, false, false, false, false, false, false, false]
abbrev m40_19 : Array Bool := #[true, true, true, true, true, true, false, false, true, false, false, false, false, false, true, false, false, false, false, false, false, false]
abbrev m40_20 : Array Bool := #[true, true, true, true, true, true, false, true, true, false, false, false, false, false, true, false, false, false, false, false, false, false]
abbrev m40_21 : Array Bool := #[true, true, true, true, true, true, true, true, true, true, false, false, false, false, true, false, false, false, false, false, false, false]
abbrev m40_22 : Array Bool := #[true, true, true, true, true, true, true, true, true, true, false, false, false, false, true, true, false, false, false, false, false, false]
abbrev m40_23 : Array Bool := #[true, true, true, true, true, true, true, true, true, true, true, true, false, false, true, false, false, false, false, false, false, false]
abbrev m40_24 : Array Bool := #[true, true, true, true, true, true, true, true, true, true, true, true, false, false, true, true, false, false, false, false, false, false]
abbrev m40_25 : Array Bool := #[true, true, true, true, true, true, true, true, true, true, true, true, true, true, true, true, true, false, false, false, false, false]
abbrev m40_26 : Array Bool := #[true, true, true, true, true, true, true, true, true, true, true, true, true, true, true, true, true, true, false, false, false, false]
abbrev m40_27 : Array Bool := #[true, true, true, true, true, true, true, true, true, true, true, true, true, true, true, true, true, true, true, false, false, false]
abbrev m40_28 : Array Bool := #[true, true, true, true, true, true, true, true, true, true, true, true, true, true, true, true, true, true, true, true, false, false]
abbrev m40_29 : Array Bool := #[true, true, true, true, true, true, true, true, true, true, true, true, true, true, true, true, true, true, true, true, true, false]
abbrev m40_30 : Array Bool := #[true, true, true, true, true, true, true, true, true, true, true, true, true, true, true, true, true, true, true, true, true, true]
theorem bq40_ {w : World} {g : Nat} {t : TypeId} {cs : Array Value} {v : Value} (h : w.heap[g]? = some (.cells cs t (0, 0))) (i : Nat) (e : cs[i]? = some v) : w.cell? ⟨g, i, none⟩ = some v := (blk_cell h i).trans e
abbrev qa40 := @Aside0.mk
abbrev qb40 := @blk_frozen
abbrev qc40 := @blk_cell
abbrev qd40 := @blk_alloc
abbrev qe40 := @blk_drewN
abbrev qf40 := @blk_drew
abbrev qg40 := @IsS71.far
abbrev qh40 := @below_set
abbrev qi40 := @KeepBut.trans
abbrev qj40 := @KeepBut.blk
abbrev qk40 := @Kd.R_mono
abbrev ql40 := @List.map_toArray
abbrev qm40 := @keep_far
abbrev qn40 := @List.map_cons
abbrev qo40 := @List.map_nil
abbrev qp40 := @Kd.S_far
abbrev qq40 := @Kd.S_mono
abbrev qr40 := @IsS71.alloc
abbrev qs40 := @IsS71.drewN
abbrev qt40 := @IsS71.set_1
abbrev qu40 := @IsS71.apart
abbrev qv40 := @IsS71.drew
abbrev qw40 := @pw_below_drewN
abbrev qx40 := @KeepBut.set_
abbrev qy40 := @Kd.R_alloc
abbrev qz40 := @Kd.R_drewN
abbrev qA40 := @Kd.R_drew
abbrev qB40 := @Kd.R_keep
abbrev qC40 := @blk_below
abbrev qD40 := @Kd.R_far
abbrev qE40 := @KeepBut.of_below
abbrev qF40 := @below_drew1
abbrev qG40 := @keep_alloc
abbrev qH40 := @keep_drewN
abbrev qI40 := @below_alloc
abbrev qJ40 := @keep_drew
abbrev qK40 := @Kd.S_alloc
abbrev qL40 := @Kd.S_drewN
abbrev qM40 := @List.length_drop
abbrev qN40 := @List.length_take
abbrev qO40 := @Kd.S_drew
abbrev qP40 := @Kd.R_types
abbrev qQ40 := @IsS71.apartS
set_option maxHeartbeats 8000000 in
set_option maxRecDepth 100000 in
theorem spec_l20Table.calls (k : Nat) (g : Nat) (s0_0 : List Int) (s0_1 : Int) (r1 : List (S29)) (r2 : Int) (r3 : Int) (r4 : List (S32)) (r5 : Int) (r6 : Int) (w0 w : World) (hI : IsS71 w0 w g s0_0 s0_1) (hB : Below w0.heap.size w0 w) (h : spec_l20Table.f k s0_0 s0_1 = some (r1, r2, r3, r4, r5, r6)) :
  Calls Tryd.prog 40 #[.pointer (some ⟨g, 0, none⟩)] w fun e w' => ∃ v0_ v3_ : Value, e = .returned (.agg #[v0_, .int .i64 r2, .int .i64 r3, v3_, .int .i64 r5]) ∧ Kd.R k29 29 w' w.heap.size (fun _ => True) v0_ r1 ∧ Kd.S k32 32 w' w.heap.size (fun _ => True) v3_ r4 ∧ IsS71 w0 w' g s0_0 r6 ∧ Below w0.heap.size w0 w' ∧ KeepBut w w' g none := by
 have hu26 := Tryd.underlying26
 have hu29 := Tryd.underlying29
 have hu32 := Tryd.underlying32
 have HI0 := qa40 hI
 have HK := qa40 (KeepBut.refl w g none)
 have HL := qa40 hB.size
 clear hI
 have HW0 := qa40 hB.size
 have HB := qa40 hB
 clear hB
 have H := h
 unfold spec_l20Table.f at H
 clear h
 replace H := Option.bind_eq_some_iff.mp H
 obtain ⟨⟨ah, cQ⟩, A20, H⟩ := H
 (try dsimp only at H)
 have A2 := qa40 A20
 clear A20
 replace H := Option.bind_eq_some_iff.mp H
 obtain ⟨⟨dU, dN⟩, A30, H⟩ := H
 (try dsimp only at H)
 have A3 := qa40 A30
 clear A30
 have H' := qa40 H
 clear H
 go_enter Tryd.func40, Tryd.ntmps40
 go_wp2_with (first | ((with_reducible refine gate_dst (N := 2) rfl ?_); refine box_event ?hg (N := 2) ?hd (cs := #[.slice none 0 0, .int .i64 0, .int .i64 0, .slice none 0 0, .int .i64 0]) (t := 26) ?hr ?_; (case hd => rfl); (case hg => rfl); (case hr => go_simp <;> rfl); intro ag hg w4 hbox hb; have n0_ := qa40 (IsS71.below HI0.out hb); have n1_ := qa40 (qi40 HK.out (qE40 hb g none) (.inl rfl)); have n2_ := qa40 (below_step HB.out hb); have n3_ := qa40 (hbox); have n4_ := qa40 ((by rw [hg]; exact (keep_size (w := w) (g := g) (row := none) HK.out) : w.heap.size ≤ ag)); have n5_ := qa40 (Nat.le_trans HW0.out n4_.out); have n6_ := qa40 ((by rw [hg]; exact Nat.ne_of_lt (IsS71.lt (show IsS71 w0 _ g s0_0 s0_1 from HI0.out)) : g ≠ ag)); have n7_ := qa40 (Ne.symm n6_.out); replace HI0 := n0_; replace HK := n1_; replace HB := n2_; have ae := n3_; have aG := n4_; have aJ := n5_; have an := n6_; have aq := n7_; clear n0_ n1_ n2_ n3_ n4_ n5_ n6_ n7_; clear hb hbox hg) | ((with_reducible refine gate_callee (f := 34) rfl ?_); refine goesL_ (some 10) rfl rfl Tryd.func34 (by kernel_rfl) rfl #[.pointer (some ⟨g, 0, none⟩), .int .i64 4] rfl (by (try simp only [ql40, qn40, qo40]) <;> rfl) ?_; (with_reducible refine (spec_l20Rd_pick.calls k g s0_0 s0_1 4 ah cQ w0 _ ?side1 ?side2 A2.out).mono ?_); (case side1 => exact HI0.out); (case side2 => exact HB.out); rintro e w5 ⟨rfl, hi, hb, hk⟩; refine ⟨_, rfl, ?_⟩; have n0_ := qa40 (qj40 hk (g' := ag) (o := .cells #[.slice none 0 0, .int .i64 0, .int .i64 0, .slice none 0 0, .int .i64 0] 26 (0, 0)) ae.out aq.out (by simp)); have n1_ := qa40 (qi40 HK.out hk (.inl rfl)); have n2_ := qa40 (hb); have n3_ := qa40 (hi); replace ae := n0_; replace HK := n1_; replace HB := n2_; replace HI0 := n3_; clear n0_ n1_ n2_ n3_; (try clear hb hk hi)) | ((with_reducible refine gate_dst (N := 3) rfl ?_); refine box_event ?hg (N := 3) ?hd (cs := #[.slice none 0 0, .int .i64 0, .int .i64 0, .slice none 0 0, .int .i64 0]) (t := 26) ?hr ?_; (case hd => rfl); (case hg => rfl); (case hr => go_simp <;> rfl); intro ad hg w6 hbox hb; have n0_ := qa40 (IsS71.below HI0.out hb); have n1_ := qa40 (qC40 (g := ag) (o := .cells #[.slice none 0 0, .int .i64 0, .int .i64 0, .slice none 0 0, .int .i64 0] 26 (0, 0)) ae.out hb); have n2_ := qa40 (qi40 HK.out (qE40 hb g none) (.inl rfl)); have n3_ := qa40 (below_step HB.out hb); have n4_ := qa40 (hbox); have n5_ := qa40 ((by rw [hg]; exact (keep_size (w := w) (g := g) (row := none) HK.out) : w.heap.size ≤ ad)); have n6_ := qa40 (Nat.le_trans HW0.out n5_.out); have n7_ := qa40 ((by rw [hg]; exact Nat.ne_of_lt (blk_lt (g := ag) (o := .cells #[.slice none 0 0, .int .i64 0, .int .i64 0, .slice none 0 0, .int .i64 0] 26 (0, 0)) ae.out) : ag ≠ ad)); have n8_ := qa40 (Ne.symm n7_.out); have n9_ := qa40 ((by rw [hg]; exact Nat.ne_of_lt (IsS71.lt (show IsS71 w0 _ g s0_0 cQ from HI0.out)) : g ≠ ad)); have bT := qa40 (Ne.symm n9_.out); replace HI0 := n0_; replace ae := n1_; replace HK := n2_; replace HB := n3_; have aa := n4_; have aH := n5_; have aK := n6_; have ar := n7_; have aT := n8_; have al := n9_; have ap := bT; clear n0_ n1_ n2_ n3_ n4_ n5_ n6_ n7_ n8_ n9_ bT; clear hb hbox hg; have hnb7 := aT.out; have hnc7 := ar.out; have hnb8 := ap.out; have hnc8 := al.out; have ea := bq40_ aa.out 0 rfl; have dX := bq40_ aa.out 1 rfl; have dM := bq40_ aa.out 2 rfl; have dY := bq40_ aa.out 3 rfl; have dP := bq40_ aa.out 4 rfl; have d5 := qb40 aa.out 0; have d3 := qb40 aa.out 1; have dD := qb40 aa.out 2; have dH := qb40 aa.out 3; have d8 := qb40 aa.out 4) | ((with_reducible refine gate_callee (f := 34) rfl ?_); refine goesL_ (some 13) rfl rfl Tryd.func34 (by kernel_rfl) rfl #[.pointer (some ⟨g, 0, none⟩), .int .i64 6] rfl (by (try simp only [ql40, qn40, qo40]) <;> rfl) ?_; (with_reducible refine (spec_l20Rd_pick.calls k g s0_0 cQ 6 dU dN w0 _ ?side1 ?side2 A3.out).mono ?_); (case side1 => repeat (first | (with_reducible first | exact HI0.out | apply qr40 | apply qs40 | apply qv40 | apply qt40 | refine qg40 ?_ an.out _ | refine qg40 ?_ al.out _) | exact HI0.out)); (case side2 => repeat (first | (with_reducible first | exact HB.out | apply qI40 | apply qw40 | apply qF40 | refine qh40 ?_ (IsS71.ge HI0.out) | refine qh40 ?_ aJ.out | refine qh40 ?_ aK.out) | exact HB.out)); rintro e w10 ⟨rfl, hi, hb, hk⟩; refine ⟨_, rfl, ?_⟩; have n0_ := qa40 (qj40 hk (g' := ag) (o := .cells #[.slice none 0 0, .int .i64 0, .int .i64 0, .slice none 0 0, .int .i64 0] 26 (0, 0)) (by (with_reducible repeat (first | apply qe40 | apply qf40 | apply qd40)); refine blk_far ?_ ar.out _; refine blk_far ?_ ar.out _; refine blk_far ?_ ar.out _; refine blk_far ?_ ar.out _; refine blk_far ?_ ar.out _; (with_reducible repeat (first | apply qe40 | apply qf40 | apply qd40)); exact ae.out) aq.out (by simp)); have n1_ := qa40 (qj40 hk (g' := ad) (o := .cells #[.slice none 0 0, .int .i64 0, .int .i64 0, .slice none 0 0, .int .i64 ah] 26 (0, 0)) (by (with_reducible repeat (first | apply qe40 | apply qf40 | apply qd40)); refine blk_put (cs := #[.slice none 0 0, .int .i64 0, .int .i64 0, .slice none 0 0, .int .i64 0]) ?_ 4 _ rfl; refine blk_put (cs := #[.slice none 0 0, .int .i64 0, .int .i64 0, .slice none 0 0, .int .i64 0]) ?_ 3 _ rfl; refine blk_put (cs := #[.slice none 0 0, .int .i64 0, .int .i64 0, .slice none 0 0, .int .i64 0]) ?_ 2 _ rfl; refine blk_put (cs := #[.slice none 0 0, .int .i64 0, .int .i64 0, .slice none 0 0, .int .i64 0]) ?_ 1 _ rfl; refine blk_put (cs := #[.slice none 0 0, .int .i64 0, .int .i64 0, .slice none 0 0, .int .i64 0]) ?_ 0 _ rfl; (with_reducible repeat (first | apply qe40 | apply qf40 | apply qd40)); exact aa.out) ap.out (by simp)); have n2_ := qa40 (qi40 (by repeat (first | (with_reducible first | exact HK.out | apply qx40 | apply qH40 | apply qJ40 | apply qG40 | refine qm40 ?_ aG.out _ | refine qm40 ?_ aH.out _) | exact HK.out)) hk (.inl rfl)); have n3_ := qa40 (hb); have n4_ := qa40 (hi); replace ae := n0_; replace aa := n1_; replace HK := n2_; replace HB := n3_; replace HI0 := n4_; clear n0_ n1_ n2_ n3_ n4_; (try clear hb hk hi)))
 go_loopg [4] k (fun kq v4 w' => ∃ (bm : Int) (aR : Int) (ab : List (S29)) (au : Value), v4 = .int .i64 bm ∧ Aside0 (spec_l20Table.l0 kq bm s0_0 aR ab 0 0 ah = some (r1, r2, r3, r4, r5, r6)) ∧ Aside0 (kq ≤ k) ∧ Aside0 (Kd.R k29 29 w' w.heap.size (fun _ => True) au ab) ∧ Aside0 (w'.heap[ag]? = some (.cells #[(.slice none 0 0), .int .i64 0, .int .i64 0, (.slice none 0 0), .int .i64 0] 26 (0, 0))) ∧ Aside0 (w'.heap[ad]? = some (.cells #[au, .int .i64 0, .int .i64 0, (.slice none 0 0), .int .i64 ah] 26 (0, 0))) ∧ Aside0 (IsS71 w0 w' g s0_0 aR) ∧ Aside0 (KeepBut w w' g none) ∧ Aside0 (Below w0.heap.size w0 w'))
 case atStart => exact ⟨(dU), (dN), (([] : List (S29))), (.slice none 0 0), (by first | rfl | (simp; done) | (simp [*]; done)), H', ⟨Nat.le_refl _⟩, ⟨by first | exact Kd.R_nil _ _ _ _ _ | exact Kd.N_nil _ _ _ _ _ | exact Kd.V_nil _ _ _ _ _ | exact Kd.Q_nil _ _ _ _ _ | exact Kd.S_nil _ _ _ _ _⟩, ⟨by (with_reducible repeat (first | apply qe40 | apply qf40 | apply qd40)); exact ae.out⟩, ⟨by (with_reducible repeat (first | apply qe40 | apply qf40 | apply qd40)); exact aa.out⟩, ⟨by repeat (first | (with_reducible first | exact HI0.out | apply qr40 | apply qs40 | apply qv40 | apply qt40 | refine qg40 ?_ an.out _ | refine qg40 ?_ al.out _) | exact HI0.out)⟩, ⟨by repeat (first | (with_reducible first | exact HK.out | apply qx40 | apply qH40 | apply qJ40 | apply qG40 | refine qm40 ?_ aG.out _ | refine qm40 ?_ aH.out _) | exact HK.out)⟩, ⟨by repeat (first | (with_reducible first | exact HB.out | apply qI40 | apply qw40 | apply qF40 | refine qh40 ?_ (IsS71.ge HI0.out) | refine qh40 ?_ aJ.out | refine qh40 ?_ aK.out) | exact HB.out)⟩⟩
 case round =>
  clear H'
  try clear p2
  try clear c3
  try clear c4
  try clear c7
  try clear c8
  try clear ea
  try clear dX
  try clear dM
  try clear dY
  try clear dP
  try clear d5
  try clear d3
  try clear dD
  try clear dH
  try clear d8
  obtain ⟨bm, aR, ab, au, rfl, HA, HK1, ac, ae, aa, HI0, HK, HB⟩ := hrel
  cases gk with
  | zero => exact absurd HA.out (by simp [spec_l20Table.l0])
  | succ k1 =>
   have H := HA.out
   clear HA
   simp only [spec_l20Table.l0] at H
   by_cases c11 : bm > 0
   ·rw [if_pos c11] at H
    have cx : decide (0 < bm) = true := decide_eq_true c11
    clear c11
    replace H := Option.bind_eq_some_iff.mp H
    obtain ⟨⟨aE, bc⟩, eb, H⟩ := H
    (try dsimp only at H)
    have A12 := qa40 eb
    clear eb
    obtain ⟨y234, bP⟩ : ∃ y_ : List Int, y_ = (([10, 25, 50, 100] : List Int)) := ⟨_, rfl⟩
    replace H : ((spec_l20Rd_pick.f k1 s0_0 bc 4).bind fun bt237 => (if 0 ≤ bt237.1 then (if bt237.1 < (y234.length : Int) then ((some (([(⟨0, 0⟩ : S29), (⟨0, 0⟩ : S29), (⟨1, aE⟩ : S29), (⟨2, rd y234 bt237.1⟩ : S29)] : List (S29)) : List (S29))).bind fun y240 => ((spec_l20Rd_pick.f k1 s0_0 bt237.2 4).bind fun bt243 => (if 0 ≤ bt243.1 then (if bt243.1 < (y240.length : Int) then (if ab.length < 8796093022208 then (spec_l20Table.l0 k1 (wrap64 (bm - 1)) s0_0 bt243.2 (ab ++ [(⟨(rd_T29 y240 bt243.1).f0, (rd_T29 y240 bt243.1).f1⟩ : S29)]) 0 0 ah) else (none)) else (none)) else (none)))) else (none)) else (none))) = some (r1, r2, r3, r4, r5, r6) := by first | (rw [bP]; with_reducible exact H) | (have H2_ := (Option.bind_some _ _).symm.trans H; rw [bP]; with_reducible exact H2_) | (have H2_ := (Option.bind_some _ _).symm.trans H; with_reducible exact H2_) | with_reducible exact H | (rw [bP]; exact H) | exact H
    have a2 := qa40 bP
    clear bP
    replace H := Option.bind_eq_some_iff.mp H
    obtain ⟨⟨ay, aQ⟩, dE, H⟩ := H
    (try dsimp only at H)
    have A13 := qa40 dE
    clear dE
    by_cases c14 : 0 ≤ ay
    ·rw [if_pos c14] at H
     have c14b0 : decide (0 ≤ ay) = true := decide_eq_true c14
     clear c14
     by_cases c15 : ay < (y234.length : Int)
     ·rw [if_pos c15] at H
      have c15b0 : decide (ay < (y234.length : Int)) = true := decide_eq_true c15
      clear c15
      obtain ⟨y240, bJ⟩ : ∃ y_ : List (S29), y_ = (([(⟨0, 0⟩ : S29), (⟨0, 0⟩ : S29), (⟨1, aE⟩ : S29), (⟨2, rd y234 ay⟩ : S29)] : List (S29))) := ⟨_, rfl⟩
      replace H : ((spec_l20Rd_pick.f k1 s0_0 aQ 4).bind fun bt243 => (if 0 ≤ bt243.1 then (if bt243.1 < (y240.length : Int) then (if ab.length < 8796093022208 then (spec_l20Table.l0 k1 (wrap64 (bm - 1)) s0_0 bt243.2 (ab ++ [(⟨(rd_T29 y240 bt243.1).f0, (rd_T29 y240 bt243.1).f1⟩ : S29)]) 0 0 ah) else (none)) else (none)) else (none))) = some (r1, r2, r3, r4, r5, r6) := by first | (rw [bJ]; with_reducible exact H) | (have H2_ := (Option.bind_some _ _).symm.trans H; rw [bJ]; with_reducible exact H2_) | (have H2_ := (Option.bind_some _ _).symm.trans H; with_reducible exact H2_) | with_reducible exact H | (rw [bJ]; exact H) | exact H
      have bB := qa40 bJ
      clear bJ
      replace H := Option.bind_eq_some_iff.mp H
      obtain ⟨⟨aN, a9⟩, dR, H⟩ := H
      (try dsimp only at H)
      have A16 := qa40 dR
      clear dR
      by_cases c17 : 0 ≤ aN
      ·rw [if_pos c17] at H
       have c17b0 : decide (0 ≤ aN) = true := decide_eq_true c17
       clear c17
       by_cases c18 : aN < (y240.length : Int)
       ·rw [if_pos c18] at H
        have c18b0 : decide (aN < (y240.length : Int)) = true := decide_eq_true c18
        clear c18
        by_cases c19 : ab.length < 8796093022208
        ·rw [if_pos c19] at H
         have ej := qa40 c19
         clear c19
         obtain ⟨cO, bL⟩ : ∃ y_ : List (S29), y_ = (ab ++ [(⟨(rd_T29 y240 aN).f0, (rd_T29 y240 aN).f1⟩ : S29)]) := ⟨_, rfl⟩
         replace H : (spec_l20Table.l0 k1 (wrap64 (bm - 1)) s0_0 a9 cO 0 0 ah) = some (r1, r2, r3, r4, r5, r6) := by first | (rw [bL]; with_reducible exact H) | (have H2_ := (Option.bind_some _ _).symm.trans H; rw [bL]; with_reducible exact H2_) | (have H2_ := (Option.bind_some _ _).symm.trans H; with_reducible exact H2_) | with_reducible exact H | (rw [bL]; exact H) | exact H
         have ed := qa40 bL
         clear bL
         have H' := qa40 H
         clear H
         obtain ⟨ak, aj, eN⟩ := Kd.R_slice ac.out
         subst eN
         try go_wp2
         have pi239 : (0 ≤ (ay : Int)) = True := eq_true (of_decide_eq_true (by first | (with_reducible assumption) | assumption))
         have qi239 : (ay < (y234.length : Int)) = True := eq_true (of_decide_eq_true (by first | (with_reducible assumption) | assumption))
         have pi245 : (0 ≤ (aN : Int)) = True := eq_true (of_decide_eq_true (by first | (with_reducible assumption) | assumption))
         have qi245 : (aN < (y240.length : Int)) = True := eq_true (of_decide_eq_true (by first | (with_reducible assumption) | assumption))
         have n0_ := qa40 (qA40 ac.out)
         have n1_ := qa40 (qf40 ae.out)
         have n2_ := qa40 (qf40 aa.out)
         have n3_ := qa40 (qv40 HI0.out)
         have n4_ := qa40 (qJ40 HK.out)
         have n5_ := qa40 (qF40 HB.out)
         replace ac := n0_
         replace ae := n1_
         replace aa := n2_
         replace HI0 := n3_
         replace HK := n4_
         replace HB := n5_
         clear n0_ n1_ n2_ n3_ n4_ n5_
         refine start_ (n := 22) (S := fun w' => w'.cell? ⟨ad, 0, none⟩ = some (.slice ak ab.length aj) ∧ w'.cell? ⟨ad, 1, none⟩ = some (.int .i64 0) ∧ w'.cell? ⟨ad, 2, none⟩ = some (.int .i64 0) ∧ w'.cell? ⟨ad, 3, none⟩ = some (.slice none 0 0) ∧ w'.cell? ⟨ad, 4, none⟩ = some (.int .i64 ah)) (ds := [21]) m40_0 (by kernel_rfl) rfl rfl ⟨(qc40 aa.out 0).trans rfl, (qc40 aa.out 1).trans rfl, (qc40 aa.out 2).trans rfl, (qc40 aa.out 3).trans rfl, (qc40 aa.out 4).trans rfl⟩ (fun hHeld => ?_); refine with_tabW spec_l20Table.tab5 spec_l20Table.bits5 (fun HT_ HW_ => ?_)
         generalize wr.drew = w21 at ac ae aa HI0 HK HB hHeld ⊢
         refine pure_ (i := 0) (N := some 18) (v := ?_) (a' := ?_) m40_1 rfl rfl (any_of HT_.out (by kernel_rfl)) (fun _ _ _ h => h) (Or.inl ⟨by rfl, ?_⟩) ?_ ?_
         rotate_left
         ·intro w'
          go_simp
          with_reducible rfl
         rotate_left
         ·simp only [Act.put, qa_, qb_, qc_, i64_w, i32_w]
          rfl
         refine pure_ (i := 2) (N := some 20) (v := ?_) (a' := ?_) m40_2 rfl rfl (any_of HT_.out (by kernel_rfl)) (fun _ _ _ h => h) (Or.inl ⟨by rfl, ?_⟩) ?_ ?_
         rotate_left
         ·intro w'
          go_simp
          with_reducible rfl
         rotate_left
         ·simp only [Act.put, qa_, qb_, qc_, i64_w, i32_w]
          rfl
         refine pure_ (i := 3) (N := some 21) (v := ?_) (a' := ?_) m40_3 rfl rfl (any_of HT_.out (by kernel_rfl)) (fun _ _ _ h => h) (Or.inl ⟨by rfl, ?_⟩) ?_ ?_
         rotate_left
         ·intro w'
          go_simp
          with_reducible rfl
         rotate_left
         ·simp only [Act.put, qa_, qb_, qc_, i64_w, i32_w]
          rfl
         refine pure_ (i := 4) (N := some 22) (v := ?_) (a' := ?_) m40_4 rfl rfl (any_of HT_.out (by kernel_rfl)) (fun _ _ _ h => h) (Or.inl ⟨by rfl, ?_⟩) ?_ ?_
         rotate_left
         ·intro w'
          go_simp
          with_reducible rfl
         rotate_left
         ·simp only [Act.put, qa_, qb_, qc_, i64_w, i32_w]
          rfl
         refine pure_ (i := 8) (N := some 26) (v := ?_) (a' := ?_) m40_5 rfl rfl (any_of HT_.out (by kernel_rfl)) (fun _ _ _ h => h) (Or.inl ⟨by rfl, ?_⟩) ?_ ?_
         rotate_left
         ·intro w'
          go_simp
          with_reducible rfl
         rotate_left
         ·simp only [Act.put, qa_, qb_, qc_, i64_w, i32_w]
          rfl
         refine pure_ (i := 14) (N := some 32) (v := ?_) (a' := ?_) m40_6 rfl rfl (any_of HT_.out (by kernel_rfl)) (fun _ _ _ h => h) (Or.inl ⟨by rfl, ?_⟩) ?_ ?_
         rotate_left
         ·intro w'
          go_simp
          with_reducible rfl
         rotate_left
         ·simp only [Act.put, qa_, qb_, qc_, i64_w, i32_w]
          rfl
         refine take_ (i := 1) (N := some 19) (v := ?_) (a' := ?_) m40_7 rfl rfl (take_ofW HT_.out HW_.out (by kernel_rfl)) (fun _ _ _ h => h) (Or.inl ⟨by rfl, ?_⟩) hHeld ?_ ?_
         rotate_left
         ·rintro w' ⟨s0, s1, s2, s3, s4⟩
          go_simp
          with_reducible rfl
         rotate_left
         ·simp only [Act.put, qa_, qb_, qc_, i64_w, i32_w]
          rfl
         refine join_ (σ := Value × Addr × Value × Addr) 6 m40_8 (fun s_ => [(23, .int .i64 aE), (25, s_.1), (27, .int .i64 ay), (29, .int .i64 (rd y234 ay)), (31, s_.2.2.1), (33, .int .i64 aN), (24, .agg #[.int .i64 1, .int .i64 aE]), (28, .pointer (some (s_.2.1.add (ay).toNat))), (30, .agg #[.int .i64 2, .int .i64 (rd y234 ay)])]) (fun s_ w' => (w'.cell? ⟨ad, 0, none⟩ = some (.slice ak ab.length aj) ∧ w'.cell? ⟨ad, 1, none⟩ = some (.int .i64 0) ∧ w'.cell? ⟨ad, 2, none⟩ = some (.int .i64 0) ∧ w'.cell? ⟨ad, 3, none⟩ = some (.slice none 0 0) ∧ w'.cell? ⟨ad, 4, none⟩ = some (.int .i64 ah)) ∧ (Kd.R (Kd.int .i64) 3 w' w.heap.size (fun _ => True) s_.1 y234) ∧ (Kd.R k29 29 w' w.heap.size (fun k_ => some k_ ≠ (.slice ak ab.length aj : Value).ownBlock) s_.2.2.1 y240) ∧ (Kd.R k29 29 w' w.heap.size (fun k_ => some k_ ≠ (s_.2.2.1 : Value).ownBlock) (.slice ak ab.length aj) ab) ∧ (∃ c_, (s_.1 : Value) = .slice (some s_.2.1) y234.length c_) ∧ (∃ c_, (s_.2.2.1 : Value) = .slice (some s_.2.2.2) y240.length c_) ∧ (w'.heap[ag]? = some (.cells #[.slice none 0 0, .int .i64 0, .int .i64 0, .slice none 0 0, .int .i64 0] 26 (0, 0))) ∧ (w'.heap[ad]? = some (.cells #[.slice ak ab.length aj, .int .i64 0, .int .i64 0, .slice none 0 0, .int .i64 ah] 26 (0, 0))) ∧ (IsS71 w0 w' g s0_0 a9) ∧ (KeepBut w w' g none) ∧ (Below w0.heap.size w0 w')) ?_ ?_
         rotate_left
         ·intro bg
          refine join_ (σ := Value × Addr × Value × Addr) 7 m40_9 (fun s_ => [(23, .int .i64 aE), (25, s_.1), (27, .int .i64 ay), (29, .int .i64 (rd y234 ay)), (31, s_.2.2.1), (24, .agg #[.int .i64 1, .int .i64 aE]), (28, .pointer (some (s_.2.1.add (ay).toNat))), (30, .agg #[.int .i64 2, .int .i64 (rd y234 ay)])]) (fun s_ w' => (w'.cell? ⟨ad, 0, none⟩ = some (.slice ak ab.length aj) ∧ w'.cell? ⟨ad, 1, none⟩ = some (.int .i64 0) ∧ w'.cell? ⟨ad, 2, none⟩ = some (.int .i64 0) ∧ w'.cell? ⟨ad, 3, none⟩ = some (.slice none 0 0) ∧ w'.cell? ⟨ad, 4, none⟩ = some (.int .i64 ah)) ∧ (Kd.R (Kd.int .i64) 3 w' w.heap.size (fun _ => True) s_.1 y234) ∧ (Kd.R k29 29 w' w.heap.size (fun k_ => some k_ ≠ (.slice ak ab.length aj : Value).ownBlock) s_.2.2.1 y240) ∧ (Kd.R k29 29 w' w.heap.size (fun k_ => some k_ ≠ (s_.2.2.1 : Value).ownBlock) (.slice ak ab.length aj) ab) ∧ (∃ c_, (s_.1 : Value) = .slice (some s_.2.1) y234.length c_) ∧ (∃ c_, (s_.2.2.1 : Value) = .slice (some s_.2.2.2) y240.length c_) ∧ (w'.heap[ag]? = some (.cells #[.slice none 0 0, .int .i64 0, .int .i64 0, .slice none 0 0, .int .i64 0] 26 (0, 0))) ∧ (w'.heap[ad]? = some (.cells #[.slice ak ab.length aj, .int .i64 0, .int .i64 0, .slice none 0 0, .int .i64 ah] 26 (0, 0))) ∧ (IsS71 w0 w' g s0_0 aQ) ∧ (KeepBut w w' g none) ∧ (Below w0.heap.size w0 w')) ?_ ?_
          rotate_left
          ·intro bZ
           refine join_ (σ := Value × Addr) 7 m40_10 (fun s_ => [(23, .int .i64 aE), (25, s_.1), (27, .int .i64 ay), (29, .int .i64 (rd y234 ay)), (33, .int .i64 aN), (24, .agg #[.int .i64 1, .int .i64 aE]), (28, .pointer (some (s_.2.add (ay).toNat))), (30, .agg #[.int .i64 2, .int .i64 (rd y234 ay)])]) (fun s_ w' => (w'.cell? ⟨ad, 0, none⟩ = some (.slice ak ab.length aj) ∧ w'.cell? ⟨ad, 1, none⟩ = some (.int .i64 0) ∧ w'.cell? ⟨ad, 2, none⟩ = some (.int .i64 0) ∧ w'.cell? ⟨ad, 3, none⟩ = some (.slice none 0 0) ∧ w'.cell? ⟨ad, 4, none⟩ = some (.int .i64 ah)) ∧ (Kd.R (Kd.int .i64) 3 w' w.heap.size (fun _ => True) s_.1 y234) ∧ (Kd.R k29 29 w' w.heap.size (fun _ => True) (.slice ak ab.length aj) ab) ∧ (∃ c_, (s_.1 : Value) = .slice (some s_.2) y234.length c_) ∧ (w'.heap[ag]? = some (.cells #[.slice none 0 0, .int .i64 0, .int .i64 0, .slice none 0 0, .int .i64 0] 26 (0, 0))) ∧ (w'.heap[ad]? = some (.cells #[.slice ak ab.length aj, .int .i64 0, .int .i64 0, .slice none 0 0, .int .i64 ah] 26 (0, 0))) ∧ (IsS71 w0 w' g s0_0 a9) ∧ (KeepBut w w' g none) ∧ (Below w0.heap.size w0 w')) ?_ ?_
           rotate_left
           ·intro br
            refine join_ (σ := Value × Addr) 8 m40_11 (fun s_ => [(23, .int .i64 aE), (25, s_.1), (27, .int .i64 ay), (29, .int .i64 (rd y234 ay)), (24, .agg #[.int .i64 1, .int .i64 aE]), (28, .pointer (some (s_.2.add (ay).toNat))), (30, .agg #[.int .i64 2, .int .i64 (rd y234 ay)])]) (fun s_ w' => (w'.cell? ⟨ad, 0, none⟩ = some (.slice ak ab.length aj) ∧ w'.cell? ⟨ad, 1, none⟩ = some (.int .i64 0) ∧ w'.cell? ⟨ad, 2, none⟩ = some (.int .i64 0) ∧ w'.cell? ⟨ad, 3, none⟩ = some (.slice none 0 0) ∧ w'.cell? ⟨ad, 4, none⟩ = some (.int .i64 ah)) ∧ (Kd.R (Kd.int .i64) 3 w' w.heap.size (fun _ => True) s_.1 y234) ∧ (Kd.R k29 29 w' w.heap.size (fun _ => True) (.slice ak ab.length aj) ab) ∧ (∃ c_, (s_.1 : Value) = .slice (some s_.2) y234.length c_) ∧ (w'.heap[ag]? = some (.cells #[.slice none 0 0, .int .i64 0, .int .i64 0, .slice none 0 0, .int .i64 0] 26 (0, 0))) ∧ (w'.heap[ad]? = some (.cells #[.slice ak ab.length aj, .int .i64 0, .int .i64 0, .slice none 0 0, .int .i64 ah] 26 (0, 0))) ∧ (IsS71 w0 w' g s0_0 aQ) ∧ (KeepBut w w' g none) ∧ (Below w0.heap.size w0 w')) ?_ ?_
            rotate_left
            ·intro cM
             refine join_ (σ := Value × Addr) 9 m40_12 (fun s_ => [(23, .int .i64 aE), (25, s_.1), (27, .int .i64 ay), (33, .int .i64 aN), (24, .agg #[.int .i64 1, .int .i64 aE]), (28, .pointer (some (s_.2.add (ay).toNat)))]) (fun s_ w' => (w'.cell? ⟨ad, 0, none⟩ = some (.slice ak ab.length aj) ∧ w'.cell? ⟨ad, 1, none⟩ = some (.int .i64 0) ∧ w'.cell? ⟨ad, 2, none⟩ = some (.int .i64 0) ∧ w'.cell? ⟨ad, 3, none⟩ = some (.slice none 0 0) ∧ w'.cell? ⟨ad, 4, none⟩ = some (.int .i64 ah)) ∧ (Kd.R (Kd.int .i64) 3 w' w.heap.size (fun _ => True) s_.1 y234) ∧ (Kd.R k29 29 w' w.heap.size (fun _ => True) (.slice ak ab.length aj) ab) ∧ (∃ c_, (s_.1 : Value) = .slice (some s_.2) y234.length c_) ∧ (w'.heap[ag]? = some (.cells #[.slice none 0 0, .int .i64 0, .int .i64 0, .slice none 0 0, .int .i64 0] 26 (0, 0))) ∧ (w'.heap[ad]? = some (.cells #[.slice ak ab.length aj, .int .i64 0, .int .i64 0, .slice none 0 0, .int .i64 ah] 26 (0, 0))) ∧ (IsS71 w0 w' g s0_0 a9) ∧ (KeepBut w w' g none) ∧ (Below w0.heap.size w0 w')) ?_ ?_
             rotate_left
             ·intro bK
              refine join_ (σ := Value × Addr) 10 m40_13 (fun s_ => [(23, .int .i64 aE), (25, s_.1), (27, .int .i64 ay), (24, .agg #[.int .i64 1, .int .i64 aE]), (28, .pointer (some (s_.2.add (ay).toNat)))]) (fun s_ w' => (w'.cell? ⟨ad, 0, none⟩ = some (.slice ak ab.length aj) ∧ w'.cell? ⟨ad, 1, none⟩ = some (.int .i64 0) ∧ w'.cell? ⟨ad, 2, none⟩ = some (.int .i64 0) ∧ w'.cell? ⟨ad, 3, none⟩ = some (.slice none 0 0) ∧ w'.cell? ⟨ad, 4, none⟩ = some (.int .i64 ah)) ∧ (Kd.R (Kd.int .i64) 3 w' w.heap.size (fun _ => True) s_.1 y234) ∧ (Kd.R k29 29 w' w.heap.size (fun _ => True) (.slice ak ab.length aj) ab) ∧ (∃ c_, (s_.1 : Value) = .slice (some s_.2) y234.length c_) ∧ (w'.heap[ag]? = some (.cells #[.slice none 0 0, .int .i64 0, .int .i64 0, .slice none 0 0, .int .i64 0] 26 (0, 0))) ∧ (w'.heap[ad]? = some (.cells #[.slice ak ab.length aj, .int .i64 0, .int .i64 0, .slice none 0 0, .int .i64 ah] 26 (0, 0))) ∧ (IsS71 w0 w' g s0_0 aQ) ∧ (KeepBut w w' g none) ∧ (Below w0.heap.size w0 w')) ?_ ?_
              rotate_left
              ·intro cq
               refine join_ (σ := Unit) 11 m40_14 (fun s_ => [(23, .int .i64 aE), (27, .int .i64 ay), (33, .int .i64 aN), (24, .agg #[.int .i64 1, .int .i64 aE])]) (fun s_ w' => (w'.cell? ⟨ad, 0, none⟩ = some (.slice ak ab.length aj) ∧ w'.cell? ⟨ad, 1, none⟩ = some (.int .i64 0) ∧ w'.cell? ⟨ad, 2, none⟩ = some (.int .i64 0) ∧ w'.cell? ⟨ad, 3, none⟩ = some (.slice none 0 0) ∧ w'.cell? ⟨ad, 4, none⟩ = some (.int .i64 ah)) ∧ (Kd.R k29 29 w' w.heap.size (fun _ => True) (.slice ak ab.length aj) ab) ∧ (w'.heap[ag]? = some (.cells #[.slice none 0 0, .int .i64 0, .int .i64 0, .slice none 0 0, .int .i64 0] 26 (0, 0))) ∧ (w'.heap[ad]? = some (.cells #[.slice ak ab.length aj, .int .i64 0, .int .i64 0, .slice none 0 0, .int .i64 ah] 26 (0, 0))) ∧ (IsS71 w0 w' g s0_0 a9) ∧ (KeepBut w w' g none) ∧ (Below w0.heap.size w0 w')) ?_ ?_
               rotate_left
               ·intro c6
                refine join_ (σ := Value × Addr) 12 m40_15 (fun s_ => [(23, .int .i64 aE), (25, s_.1), (24, .agg #[.int .i64 1, .int .i64 aE])]) (fun s_ w' => (w'.cell? ⟨ad, 0, none⟩ = some (.slice ak ab.length aj) ∧ w'.cell? ⟨ad, 1, none⟩ = some (.int .i64 0) ∧ w'.cell? ⟨ad, 2, none⟩ = some (.int .i64 0) ∧ w'.cell? ⟨ad, 3, none⟩ = some (.slice none 0 0) ∧ w'.cell? ⟨ad, 4, none⟩ = some (.int .i64 ah)) ∧ (Kd.R (Kd.int .i64) 3 w' w.heap.size (fun _ => True) s_.1 y234) ∧ (Kd.R k29 29 w' w.heap.size (fun _ => True) (.slice ak ab.length aj) ab) ∧ (∃ c_, (s_.1 : Value) = .slice (some s_.2) y234.length c_) ∧ (w'.heap[ag]? = some (.cells #[.slice none 0 0, .int .i64 0, .int .i64 0, .slice none 0 0, .int .i64 0] 26 (0, 0))) ∧ (w'.heap[ad]? = some (.cells #[.slice ak ab.length aj, .int .i64 0, .int .i64 0, .slice none 0 0, .int .i64 ah] 26 (0, 0))) ∧ (IsS71 w0 w' g s0_0 bc) ∧ (KeepBut w w' g none) ∧ (Below w0.heap.size w0 w')) ?_ ?_
                rotate_left
                ·intro dh
                 refine join_ (σ := Unit) 12 m40_16 (fun s_ => [(23, .int .i64 aE), (27, .int .i64 ay), (24, .agg #[.int .i64 1, .int .i64 aE])]) (fun s_ w' => (w'.cell? ⟨ad, 0, none⟩ = some (.slice ak ab.length aj) ∧ w'.cell? ⟨ad, 1, none⟩ = some (.int .i64 0) ∧ w'.cell? ⟨ad, 2, none⟩ = some (.int .i64 0) ∧ w'.cell? ⟨ad, 3, none⟩ = some (.slice none 0 0) ∧ w'.cell? ⟨ad, 4, none⟩ = some (.int .i64 ah)) ∧ (Kd.R k29 29 w' w.heap.size (fun _ => True) (.slice ak ab.length aj) ab) ∧ (w'.heap[ag]? = some (.cells #[.slice none 0 0, .int .i64 0, .int .i64 0, .slice none 0 0, .int .i64 0] 26 (0, 0))) ∧ (w'.heap[ad]? = some (.cells #[.slice ak ab.length aj, .int .i64 0, .int .i64 0, .slice none 0 0, .int .i64 ah] 26 (0, 0))) ∧ (IsS71 w0 w' g s0_0 aQ) ∧ (KeepBut w w' g none) ∧ (Below w0.heap.size w0 w')) ?_ ?_
                 rotate_left
                 ·intro ev
                  refine join_ (σ := Unit) 13 m40_17 (fun s_ => [(23, .int .i64 aE), (24, .agg #[.int .i64 1, .int .i64 aE])]) (fun s_ w' => (w'.cell? ⟨ad, 0, none⟩ = some (.slice ak ab.length aj) ∧ w'.cell? ⟨ad, 1, none⟩ = some (.int .i64 0) ∧ w'.cell? ⟨ad, 2, none⟩ = some (.int .i64 0) ∧ w'.cell? ⟨ad, 3, none⟩ = some (.slice none 0 0) ∧ w'.cell? ⟨ad, 4, none⟩ = some (.int .i64 ah)) ∧ (Kd.R k29 29 w' w.heap.size (fun _ => True) (.slice ak ab.length aj) ab) ∧ (w'.heap[ag]? = some (.cells #[.slice none 0 0, .int .i64 0, .int .i64 0, .slice none 0 0, .int .i64 0] 26 (0, 0))) ∧ (w'.heap[ad]? = some (.cells #[.slice ak ab.length aj, .int .i64 0, .int .i64 0, .slice none 0 0, .int .i64 ah] 26 (0, 0))) ∧ (IsS71 w0 w' g s0_0 bc) ∧ (KeepBut w w' g none) ∧ (Below w0.heap.size w0 w')) ?_ ?_
                  rotate_left
                  ·intro hJ5
                   refine join_ (σ := Value × Addr) 14 m40_18 (fun s_ => [(25, s_.1)]) (fun s_ w' => (w'.cell? ⟨ad, 0, none⟩ = some (.slice ak ab.length aj) ∧ w'.cell? ⟨ad, 1, none⟩ = some (.int .i64 0) ∧ w'.cell? ⟨ad, 2, none⟩ = some (.int .i64 0) ∧ w'.cell? ⟨ad, 3, none⟩ = some (.slice none 0 0) ∧ w'.cell? ⟨ad, 4, none⟩ = some (.int .i64 ah)) ∧ (Kd.R (Kd.int .i64) 3 w' w.heap.size (fun _ => True) s_.1 y234) ∧ (Kd.R k29 29 w' w.heap.size (fun _ => True) (.slice ak ab.length aj) ab) ∧ (∃ c_, (s_.1 : Value) = .slice (some s_.2) y234.length c_) ∧ (w'.heap[ag]? = some (.cells #[.slice none 0 0, .int .i64 0, .int .i64 0, .slice none 0 0, .int .i64 0] 26 (0, 0))) ∧ (w'.heap[ad]? = some (.cells #[.slice ak ab.length aj, .int .i64 0, .int .i64 0, .slice none 0 0, .int .i64 ah] 26 (0, 0))) ∧ (IsS71 w0 w' g s0_0 aR) ∧ (KeepBut w w' g none) ∧ (Below w0.heap.size w0 w')) ?_ ?_
                   rotate_left
                   ·intro hJ7
                    refine two_ (i := 5) (j := 7) (Ni := some 23) (Nj := some 25) m40_19 m40_18 rfl rfl rfl rfl (two_of HT_.out (by kernel_rfl)) (by decide) (by decide) (fun K hK => ?_) (fun K hK => ?_)
                    ·skip
                     refine goes_ Tryd.func34 (by kernel_rfl) rfl #[.pointer (some ⟨g, 0, none⟩), .int .i64 30] (by rfl) rfl rfl (by (try simp only [ql40, qn40, qo40]); first | done | rfl | (simp only [qM40, qN40]; rfl)) ?_
                     with_reducible refine (spec_l20Rd_pick.calls k1 g s0_0 aR 30 aE bc w0 _ ?side1 ?side2 A12.out).mono ?_
                     (case side1 => exact HI0.out)
                     (case side2 => exact HB.out)
                     rintro e w22 ⟨rfl, hi, hb, hk⟩
                     refine ⟨_, rfl, ?_⟩
                     have n0_ := qa40 (qk40 (qB40 (qu40 (show IsS71 w0 _ g s0_0 aR from HI0.out) ac.out (by decide)) hk (fun _ h => h.2)) (fun _ h => h.1))
                     have n1_ := qa40 (qj40 hk (g' := ag) (o := .cells #[.slice none 0 0, .int .i64 0, .int .i64 0, .slice none 0 0, .int .i64 0] 26 (0, 0)) ae.out aq.out (by simp))
                     have n2_ := qa40 (qj40 hk (g' := ad) (o := .cells #[.slice ak ab.length aj, .int .i64 0, .int .i64 0, .slice none 0 0, .int .i64 ah] 26 (0, 0)) aa.out ap.out (by simp))
                     have n3_ := qa40 (qi40 HK.out hk (.inl rfl))
                     have n4_ := qa40 (hb)
                     have n5_ := qa40 (hi)
                     replace ac := n0_
                     replace ae := n1_
                     replace aa := n2_
                     replace HK := n3_
                     replace HB := n4_
                     replace HI0 := n5_
                     clear n0_ n1_ n2_ n3_ n4_ n5_
                     (try clear hb)
                     (try clear hb2)
                     (try clear hk)
                     (try clear hi)
                     refine hK.out _ _ ⟨(qc40 aa.out 0).trans rfl, (qc40 aa.out 1).trans rfl, (qc40 aa.out 2).trans rfl, (qc40 aa.out 3).trans rfl, (qc40 aa.out 4).trans rfl⟩ (fun hHeld => ?_)
                     clear hK K
                     refine norm_ (a' := ?_) ?_ ?_
                     rotate_left
                     ·show Act.put _ (some 23) _ = _
                      simp only [Act.put, qa_, qb_, qc_, i64_w, i32_w]
                      rfl
                     refine pure_ (i := 6) (N := some 24) (v := ?_) (a' := ?_) m40_17 rfl rfl (any_of HT_.out (by kernel_rfl)) (fun _ _ _ h => h) (Or.inl ⟨by rfl, ?_⟩) ?_ ?_
                     rotate_left
                     ·intro w'
                      go_simp
                      with_reducible rfl
                     rotate_left
                     ·simp only [Act.put, qa_, qb_, qc_, i64_w, i32_w]
                      rfl
                     exact norm_ (by first | (simp only [putAll, Act.put, qa_, qb_, qc_]; done) | (simp only [putAll, Act.put, qa_, qb_, qc_]; rfl)) (hJ5 () _ ⟨hHeld, ac.out, ae.out, aa.out, HI0.out, HK.out, HB.out⟩)
                    ·skip
                     refine Kd.R_lit_step (Kd.int .i64) _ 3 ?hg (N := 25) ?hd (xs := ([10, 25, 50, 100] : List Int)) (inner := [.int .i64 10, .int .i64 25, .int .i64 50, .int .i64 100]) (ok := fun _ => True) (okp := fun _ => True) ?hr ?hp (fun _ hk => hk) trivial (Below.refl _ _) (Nat.le_refl _) (by simp) ?_; (case hd => rfl); (case hg => rfl); (case hr => go_simp <;> rfl); (case hp => exact (Reps.one (show Kd.M (Kd.int .i64) _ _ _ 10 [.int .i64 10] from rfl) (Reps.one (show Kd.M (Kd.int .i64) _ _ _ 25 [.int .i64 25] from rfl) (Reps.one (show Kd.M (Kd.int .i64) _ _ _ 50 [.int .i64 50] from rfl) (Reps.one (show Kd.M (Kd.int .i64) _ _ _ 100 [.int .i64 100] from rfl) (Reps.none _ _))))))
                     intro aM w22 cf hb hg_ hnew_
                     clear hg_ hnew_
                     (first | rw [← a2.out] at cf | (simp only [Int.reduceToNat] at cf; rw [← a2.out] at cf))
                     have n0_ := qa40 (Kd.R_below ac.out hb)
                     have n1_ := qa40 (Kd.R_lower cf (keep_size (w := w) (g := g) (row := none) HK.out))
                     have n2_ := qa40 (qC40 (g := ag) (o := .cells #[.slice none 0 0, .int .i64 0, .int .i64 0, .slice none 0 0, .int .i64 0] 26 (0, 0)) ae.out hb)
                     have n3_ := qa40 (qC40 (g := ad) (o := .cells #[.slice ak ab.length aj, .int .i64 0, .int .i64 0, .slice none 0 0, .int .i64 ah] 26 (0, 0)) aa.out hb)
                     have n4_ := qa40 (IsS71.below HI0.out hb)
                     have n5_ := qa40 (qi40 HK.out (qE40 hb g none) (.inl rfl))
                     have n6_ := qa40 (below_step HB.out hb)
                     replace ac := n0_
                     have ao := n1_
                     replace ae := n2_
                     replace aa := n3_
                     replace HI0 := n4_
                     replace HK := n5_
                     replace HB := n6_
                     clear n0_ n1_ n2_ n3_ n4_ n5_ n6_
                     clear hb cf
                     obtain ⟨Ao24, fX, eG⟩ := Kd.R_slice ao.out
                     subst eG
                     obtain ⟨dp, eV, _⟩ := Kd.at_int (Kd.R_reads' ao.out).2.2 0 (by decide) (by rw [a2.out]; simp)
                     cases eV
                     refine hK.out _ _ ⟨(qc40 aa.out 0).trans rfl, (qc40 aa.out 1).trans rfl, (qc40 aa.out 2).trans rfl, (qc40 aa.out 3).trans rfl, (qc40 aa.out 4).trans rfl⟩ (fun hHeld => ?_)
                     clear hK K
                     refine norm_ (a' := ?_) ?_ ?_
                     rotate_left
                     ·show Act.put _ (some 25) _ = _
                      simp only [Act.put, qa_, qb_, qc_, i64_w, i32_w]
                      rfl
                     exact norm_ (by first | (simp only [putAll, Act.put, qa_, qb_, qc_]; done) | (simp only [putAll, Act.put, qa_, qb_, qc_]; rfl)) (hJ7 (.slice (some dp) y234.length fX, dp) _ ⟨hHeld, ao.out, ac.out, ⟨_, rfl⟩, ae.out, aa.out, HI0.out, HK.out, HB.out⟩)
                   ·skip
                    rintro ⟨aM, am⟩ w25 ⟨hS_, h0_, h1_, h2_, h3_, h4_, h5_, h6_, h7_⟩
                    have n0_ : Aside0 (Kd.R (Kd.int .i64) 3 w25 w.heap.size (fun _ => True) aM y234) := ⟨h0_⟩
                    have n1_ : Aside0 (Kd.R k29 29 w25 w.heap.size (fun _ => True) (.slice ak ab.length aj) ab) := ⟨h1_⟩
                    have n2_ : Aside0 (∃ c_, (aM : Value) = .slice (some am) y234.length c_) := ⟨h2_⟩
                    have n3_ : Aside0 (w25.heap[ag]? = some (.cells #[.slice none 0 0, .int .i64 0, .int .i64 0, .slice none 0 0, .int .i64 0] 26 (0, 0))) := ⟨h3_⟩
                    have n4_ : Aside0 (w25.heap[ad]? = some (.cells #[.slice ak ab.length aj, .int .i64 0, .int .i64 0, .slice none 0 0, .int .i64 ah] 26 (0, 0))) := ⟨h4_⟩
                    have n5_ : Aside0 (IsS71 w0 w25 g s0_0 aR) := ⟨h5_⟩
                    have n6_ : Aside0 (KeepBut w w25 g none) := ⟨h6_⟩
                    have n7_ : Aside0 (Below w0.heap.size w0 w25) := ⟨h7_⟩
                    clear h0_ h1_ h2_ h3_ h4_ h5_ h6_ h7_
                    have ao := n0_
                    replace ac := n1_
                    have az := n2_
                    replace ae := n3_
                    replace aa := n4_
                    replace HI0 := n5_
                    replace HK := n6_
                    replace HB := n7_
                    clear n0_ n1_ n2_ n3_ n4_ n5_ n6_ n7_
                    have hHeld : w25.cell? ⟨ad, 0, none⟩ = some (.slice ak ab.length aj) ∧ w25.cell? ⟨ad, 1, none⟩ = some (.int .i64 0) ∧ w25.cell? ⟨ad, 2, none⟩ = some (.int .i64 0) ∧ w25.cell? ⟨ad, 3, none⟩ = some (.slice none 0 0) ∧ w25.cell? ⟨ad, 4, none⟩ = some (.int .i64 ah) := hS_
                    obtain ⟨c0, cY⟩ := az.out
                    clear az
                    subst cY
                    refine norm_ (a' := ?_) ?_ ?_
                    rotate_left
                    ·simp only [putAll, Act.put, qa_, qb_, qc_]
                     rfl
                    refine one_ (i := 5) (N := some 23) m40_20 rfl rfl (one_of HT_.out (by kernel_rfl)) (by decide) (fun K hK => ?_)
                    refine goes_ Tryd.func34 (by kernel_rfl) rfl #[.pointer (some ⟨g, 0, none⟩), .int .i64 30] (by rfl) rfl rfl (by (try simp only [ql40, qn40, qo40]); first | done | rfl | (simp only [qM40, qN40]; rfl)) ?_
                    with_reducible refine (spec_l20Rd_pick.calls k1 g s0_0 aR 30 aE bc w0 _ ?side1 ?side2 A12.out).mono ?_
                    (case side1 => exact HI0.out)
                    (case side2 => exact HB.out)
                    rintro e w27 ⟨rfl, hi, hb, hk⟩
                    refine ⟨_, rfl, ?_⟩
                    have n0_ := qa40 (qk40 (qB40 (qu40 (show IsS71 w0 _ g s0_0 aR from HI0.out) ac.out (by decide)) hk (fun _ h => h.2)) (fun _ h => h.1))
                    have n1_ := qa40 (qj40 hk (g' := ag) (o := .cells #[.slice none 0 0, .int .i64 0, .int .i64 0, .slice none 0 0, .int .i64 0] 26 (0, 0)) ae.out aq.out (by simp))
                    have n2_ := qa40 (qj40 hk (g' := ad) (o := .cells #[.slice ak ab.length aj, .int .i64 0, .int .i64 0, .slice none 0 0, .int .i64 ah] 26 (0, 0)) aa.out ap.out (by simp))
                    have n3_ := qa40 (qk40 (qB40 (qu40 (show IsS71 w0 _ g s0_0 aR from HI0.out) ao.out (by decide)) hk (fun _ h => h.2)) (fun _ h => h.1))
                    have n4_ := qa40 (qi40 HK.out hk (.inl rfl))
                    have n5_ := qa40 (hb)
                    have n6_ := qa40 (hi)
                    replace ac := n0_
                    replace ae := n1_
                    replace aa := n2_
                    replace ao := n3_
                    replace HK := n4_
                    replace HB := n5_
                    replace HI0 := n6_
                    clear n0_ n1_ n2_ n3_ n4_ n5_ n6_
                    (try clear hb)
                    (try clear hb2)
                    (try clear hk)
                    (try clear hi)
                    refine hK.out _ _ ⟨(qc40 aa.out 0).trans rfl, (qc40 aa.out 1).trans rfl, (qc40 aa.out 2).trans rfl, (qc40 aa.out 3).trans rfl, (qc40 aa.out 4).trans rfl⟩ (fun hHeld => ?_)
                    clear hK K
                    refine norm_ (a' := ?_) ?_ ?_
                    rotate_left
                    ·show Act.put _ (some 23) _ = _
                     simp only [Act.put, qa_, qb_, qc_, i64_w, i32_w]
                     rfl
                    refine pure_ (i := 6) (N := some 24) (v := ?_) (a' := ?_) m40_15 rfl rfl (any_of HT_.out (by kernel_rfl)) (fun _ _ _ h => h) (Or.inl ⟨by rfl, ?_⟩) ?_ ?_
                    rotate_left
                    ·intro w'
                     go_simp
                     with_reducible rfl
                    rotate_left
                    ·simp only [Act.put, qa_, qb_, qc_, i64_w, i32_w]
                     rfl
                    exact norm_ (by first | (simp only [putAll, Act.put, qa_, qb_, qc_]; done) | (simp only [putAll, Act.put, qa_, qb_, qc_]; rfl)) (dh (.slice (some am) y234.length c0, am) _ ⟨hHeld, ao.out, ac.out, ⟨_, rfl⟩, ae.out, aa.out, HI0.out, HK.out, HB.out⟩)
                  ·skip
                   rintro _ w23 ⟨hS_, h0_, h1_, h2_, h3_, h4_, h5_⟩
                   have n0_ : Aside0 (Kd.R k29 29 w23 w.heap.size (fun _ => True) (.slice ak ab.length aj) ab) := ⟨h0_⟩
                   have n1_ : Aside0 (w23.heap[ag]? = some (.cells #[.slice none 0 0, .int .i64 0, .int .i64 0, .slice none 0 0, .int .i64 0] 26 (0, 0))) := ⟨h1_⟩
                   have n2_ : Aside0 (w23.heap[ad]? = some (.cells #[.slice ak ab.length aj, .int .i64 0, .int .i64 0, .slice none 0 0, .int .i64 ah] 26 (0, 0))) := ⟨h2_⟩
                   have n3_ : Aside0 (IsS71 w0 w23 g s0_0 bc) := ⟨h3_⟩
                   have n4_ : Aside0 (KeepBut w w23 g none) := ⟨h4_⟩
                   have n5_ : Aside0 (Below w0.heap.size w0 w23) := ⟨h5_⟩
                   clear h0_ h1_ h2_ h3_ h4_ h5_
                   replace ac := n0_
                   replace ae := n1_
                   replace aa := n2_
                   replace HI0 := n3_
                   replace HK := n4_
                   replace HB := n5_
                   clear n0_ n1_ n2_ n3_ n4_ n5_
                   have hHeld : w23.cell? ⟨ad, 0, none⟩ = some (.slice ak ab.length aj) ∧ w23.cell? ⟨ad, 1, none⟩ = some (.int .i64 0) ∧ w23.cell? ⟨ad, 2, none⟩ = some (.int .i64 0) ∧ w23.cell? ⟨ad, 3, none⟩ = some (.slice none 0 0) ∧ w23.cell? ⟨ad, 4, none⟩ = some (.int .i64 ah) := hS_
                   refine norm_ (a' := ?_) ?_ ?_
                   rotate_left
                   ·simp only [putAll, Act.put, qa_, qb_, qc_]
                    rfl
                   refine two_ (i := 7) (j := 9) (Ni := some 25) (Nj := some 27) m40_15 m40_16 rfl rfl rfl rfl (two_of HT_.out (by kernel_rfl)) (by decide) (by decide) (fun K hK => ?_) (fun K hK => ?_)
                   ·skip
                    refine Kd.R_lit_step (Kd.int .i64) _ 3 ?hg (N := 25) ?hd (xs := ([10, 25, 50, 100] : List Int)) (inner := [.int .i64 10, .int .i64 25, .int .i64 50, .int .i64 100]) (ok := fun _ => True) (okp := fun _ => True) ?hr ?hp (fun _ hk => hk) trivial (Below.refl _ _) (Nat.le_refl _) (by simp) ?_; (case hd => rfl); (case hg => rfl); (case hr => go_simp <;> rfl); (case hp => exact (Reps.one (show Kd.M (Kd.int .i64) _ _ _ 10 [.int .i64 10] from rfl) (Reps.one (show Kd.M (Kd.int .i64) _ _ _ 25 [.int .i64 25] from rfl) (Reps.one (show Kd.M (Kd.int .i64) _ _ _ 50 [.int .i64 50] from rfl) (Reps.one (show Kd.M (Kd.int .i64) _ _ _ 100 [.int .i64 100] from rfl) (Reps.none _ _))))))
                    intro aM w24 cc hb hg_ hnew_
                    clear hg_ hnew_
                    (first | rw [← a2.out] at cc | (simp only [Int.reduceToNat] at cc; rw [← a2.out] at cc))
                    have n0_ := qa40 (Kd.R_below ac.out hb)
                    have n1_ := qa40 (Kd.R_lower cc (keep_size (w := w) (g := g) (row := none) HK.out))
                    have n2_ := qa40 (qC40 (g := ag) (o := .cells #[.slice none 0 0, .int .i64 0, .int .i64 0, .slice none 0 0, .int .i64 0] 26 (0, 0)) ae.out hb)
                    have n3_ := qa40 (qC40 (g := ad) (o := .cells #[.slice ak ab.length aj, .int .i64 0, .int .i64 0, .slice none 0 0, .int .i64 ah] 26 (0, 0)) aa.out hb)
                    have n4_ := qa40 (IsS71.below HI0.out hb)
                    have n5_ := qa40 (qi40 HK.out (qE40 hb g none) (.inl rfl))
                    have n6_ := qa40 (below_step HB.out hb)
                    replace ac := n0_
                    have ao := n1_
                    replace ae := n2_
                    replace aa := n3_
                    replace HI0 := n4_
                    replace HK := n5_
                    replace HB := n6_
                    clear n0_ n1_ n2_ n3_ n4_ n5_ n6_
                    clear hb cc
                    obtain ⟨Ao26, c0, cY⟩ := Kd.R_slice ao.out
                    subst cY
                    obtain ⟨dr, eX, _⟩ := Kd.at_int (Kd.R_reads' ao.out).2.2 0 (by decide) (by rw [a2.out]; simp)
                    cases eX
                    refine hK.out _ _ ⟨(qc40 aa.out 0).trans rfl, (qc40 aa.out 1).trans rfl, (qc40 aa.out 2).trans rfl, (qc40 aa.out 3).trans rfl, (qc40 aa.out 4).trans rfl⟩ (fun hHeld => ?_)
                    clear hK K
                    refine norm_ (a' := ?_) ?_ ?_
                    rotate_left
                    ·show Act.put _ (some 25) _ = _
                     simp only [Act.put, qa_, qb_, qc_, i64_w, i32_w]
                     rfl
                    exact norm_ (by first | (simp only [putAll, Act.put, qa_, qb_, qc_]; done) | (simp only [putAll, Act.put, qa_, qb_, qc_]; rfl)) (dh (.slice (some dr) y234.length c0, dr) _ ⟨hHeld, ao.out, ac.out, ⟨_, rfl⟩, ae.out, aa.out, HI0.out, HK.out, HB.out⟩)
                   ·skip
                    refine goes_ Tryd.func34 (by kernel_rfl) rfl #[.pointer (some ⟨g, 0, none⟩), .int .i64 4] (by rfl) rfl rfl (by (try simp only [ql40, qn40, qo40]); first | done | rfl | (simp only [qM40, qN40]; rfl)) ?_
                    with_reducible refine (spec_l20Rd_pick.calls k1 g s0_0 bc 4 ay aQ w0 _ ?side1 ?side2 A13.out).mono ?_
                    (case side1 => exact HI0.out)
                    (case side2 => exact HB.out)
                    rintro e w24 ⟨rfl, hi, hb, hk⟩
                    refine ⟨_, rfl, ?_⟩
                    have n0_ := qa40 (qk40 (qB40 (qu40 (show IsS71 w0 _ g s0_0 bc from HI0.out) ac.out (by decide)) hk (fun _ h => h.2)) (fun _ h => h.1))
                    have n1_ := qa40 (qj40 hk (g' := ag) (o := .cells #[.slice none 0 0, .int .i64 0, .int .i64 0, .slice none 0 0, .int .i64 0] 26 (0, 0)) ae.out aq.out (by simp))
                    have n2_ := qa40 (qj40 hk (g' := ad) (o := .cells #[.slice ak ab.length aj, .int .i64 0, .int .i64 0, .slice none 0 0, .int .i64 ah] 26 (0, 0)) aa.out ap.out (by simp))
                    have n3_ := qa40 (qi40 HK.out hk (.inl rfl))
                    have n4_ := qa40 (hb)
                    have n5_ := qa40 (hi)
                    replace ac := n0_
                    replace ae := n1_
                    replace aa := n2_
                    replace HK := n3_
                    replace HB := n4_
                    replace HI0 := n5_
                    clear n0_ n1_ n2_ n3_ n4_ n5_
                    (try clear hb)
                    (try clear hb2)
                    (try clear hk)
                    (try clear hi)
                    refine hK.out _ _ ⟨(qc40 aa.out 0).trans rfl, (qc40 aa.out 1).trans rfl, (qc40 aa.out 2).trans rfl, (qc40 aa.out 3).trans rfl, (qc40 aa.out 4).trans rfl⟩ (fun hHeld => ?_)
                    clear hK K
                    refine norm_ (a' := ?_) ?_ ?_
                    rotate_left
                    ·show Act.put _ (some 27) _ = _
                     simp only [Act.put, qa_, qb_, qc_, i64_w, i32_w]
                     rfl
                    exact norm_ (by first | (simp only [putAll, Act.put, qa_, qb_, qc_]; done) | (simp only [putAll, Act.put, qa_, qb_, qc_]; rfl)) (ev () _ ⟨hHeld, ac.out, ae.out, aa.out, HI0.out, HK.out, HB.out⟩)
                 ·skip
                  rintro _ w24 ⟨hS_, h0_, h1_, h2_, h3_, h4_, h5_⟩
                  have n0_ : Aside0 (Kd.R k29 29 w24 w.heap.size (fun _ => True) (.slice ak ab.length aj) ab) := ⟨h0_⟩
                  have n1_ : Aside0 (w24.heap[ag]? = some (.cells #[.slice none 0 0, .int .i64 0, .int .i64 0, .slice none 0 0, .int .i64 0] 26 (0, 0))) := ⟨h1_⟩
                  have n2_ : Aside0 (w24.heap[ad]? = some (.cells #[.slice ak ab.length aj, .int .i64 0, .int .i64 0, .slice none 0 0, .int .i64 ah] 26 (0, 0))) := ⟨h2_⟩
                  have n3_ : Aside0 (IsS71 w0 w24 g s0_0 aQ) := ⟨h3_⟩
                  have n4_ : Aside0 (KeepBut w w24 g none) := ⟨h4_⟩
                  have n5_ : Aside0 (Below w0.heap.size w0 w24) := ⟨h5_⟩
                  clear h0_ h1_ h2_ h3_ h4_ h5_
                  replace ac := n0_
                  replace ae := n1_
                  replace aa := n2_
                  replace HI0 := n3_
                  replace HK := n4_
                  replace HB := n5_
                  clear n0_ n1_ n2_ n3_ n4_ n5_
                  have hHeld : w24.cell? ⟨ad, 0, none⟩ = some (.slice ak ab.length aj) ∧ w24.cell? ⟨ad, 1, none⟩ = some (.int .i64 0) ∧ w24.cell? ⟨ad, 2, none⟩ = some (.int .i64 0) ∧ w24.cell? ⟨ad, 3, none⟩ = some (.slice none 0 0) ∧ w24.cell? ⟨ad, 4, none⟩ = some (.int .i64 ah) := hS_
                  refine norm_ (a' := ?_) ?_ ?_
                  rotate_left
                  ·simp only [putAll, Act.put, qa_, qb_, qc_]
                   rfl
                  refine two_ (i := 7) (j := 15) (Ni := some 25) (Nj := some 33) m40_21 m40_14 rfl rfl rfl rfl (two_of HT_.out (by kernel_rfl)) (by decide) (by decide) (fun K hK => ?_) (fun K hK => ?_)
                  ·skip
                   refine Kd.R_lit_step (Kd.int .i64) _ 3 ?hg (N := 25) ?hd (xs := ([10, 25, 50, 100] : List Int)) (inner := [.int .i64 10, .int .i64 25, .int .i64 50, .int .i64 100]) (ok := fun _ => True) (okp := fun _ => True) ?hr ?hp (fun _ hk => hk) trivial (Below.refl _ _) (Nat.le_refl _) (by simp) ?_; (case hd => rfl); (case hg => rfl); (case hr => go_simp <;> rfl); (case hp => exact (Reps.one (show Kd.M (Kd.int .i64) _ _ _ 10 [.int .i64 10] from rfl) (Reps.one (show Kd.M (Kd.int .i64) _ _ _ 25 [.int .i64 25] from rfl) (Reps.one (show Kd.M (Kd.int .i64) _ _ _ 50 [.int .i64 50] from rfl) (Reps.one (show Kd.M (Kd.int .i64) _ _ _ 100 [.int .i64 100] from rfl) (Reps.none _ _))))))
                   intro aM w25 co hb hg_ hnew_
                   clear hg_ hnew_
                   (first | rw [← a2.out] at co | (simp only [Int.reduceToNat] at co; rw [← a2.out] at co))
                   have n0_ := qa40 (Kd.R_below ac.out hb)
                   have n1_ := qa40 (Kd.R_lower co (keep_size (w := w) (g := g) (row := none) HK.out))
                   have n2_ := qa40 (qC40 (g := ag) (o := .cells #[.slice none 0 0, .int .i64 0, .int .i64 0, .slice none 0 0, .int .i64 0] 26 (0, 0)) ae.out hb)
                   have n3_ := qa40 (qC40 (g := ad) (o := .cells #[.slice ak ab.length aj, .int .i64 0, .int .i64 0, .slice none 0 0, .int .i64 ah] 26 (0, 0)) aa.out hb)
                   have n4_ := qa40 (IsS71.below HI0.out hb)
                   have n5_ := qa40 (qi40 HK.out (qE40 hb g none) (.inl rfl))
                   have n6_ := qa40 (below_step HB.out hb)
                   replace ac := n0_
                   have ao := n1_
                   replace ae := n2_
                   replace aa := n3_
                   replace HI0 := n4_
                   replace HK := n5_
                   replace HB := n6_
                   clear n0_ n1_ n2_ n3_ n4_ n5_ n6_
                   clear hb co
                   obtain ⟨Ao27, dd, c9⟩ := Kd.R_slice ao.out
                   subst c9
                   obtain ⟨dj, fF, _⟩ := Kd.at_int (Kd.R_reads' ao.out).2.2 0 (by decide) (by rw [a2.out]; simp)
                   cases fF
                   refine hK.out _ _ ⟨(qc40 aa.out 0).trans rfl, (qc40 aa.out 1).trans rfl, (qc40 aa.out 2).trans rfl, (qc40 aa.out 3).trans rfl, (qc40 aa.out 4).trans rfl⟩ (fun hHeld => ?_)
                   clear hK K
                   refine norm_ (a' := ?_) ?_ ?_
                   rotate_left
                   ·show Act.put _ (some 25) _ = _
                    simp only [Act.put, qa_, qb_, qc_, i64_w, i32_w]
                    rfl
                   refine pure_ (i := 10) (N := some 28) (v := ?_) (a' := ?_) m40_13 rfl rfl (any_of HT_.out (by kernel_rfl)) (fun _ _ _ h => h) (Or.inl ⟨by rfl, ?_⟩) ?_ ?_
                   rotate_left
                   ·intro w'
                    go_simp
                    with_reducible rfl
                   rotate_left
                   ·simp only [Act.put, qa_, qb_, qc_, i64_w, i32_w]
                    rfl
                   exact norm_ (by first | (simp only [putAll, Act.put, qa_, qb_, qc_]; done) | (simp only [putAll, Act.put, qa_, qb_, qc_]; rfl)) (cq (.slice (some dj) y234.length dd, dj) _ ⟨hHeld, ao.out, ac.out, ⟨_, rfl⟩, ae.out, aa.out, HI0.out, HK.out, HB.out⟩)
                  ·skip
                   refine goes_ Tryd.func34 (by kernel_rfl) rfl #[.pointer (some ⟨g, 0, none⟩), .int .i64 4] (by rfl) rfl rfl (by (try simp only [ql40, qn40, qo40]); first | done | rfl | (simp only [qM40, qN40]; rfl)) ?_
                   with_reducible refine (spec_l20Rd_pick.calls k1 g s0_0 aQ 4 aN a9 w0 _ ?side1 ?side2 A16.out).mono ?_
                   (case side1 => exact HI0.out)
                   (case side2 => exact HB.out)
                   rintro e w25 ⟨rfl, hi, hb, hk⟩
                   refine ⟨_, rfl, ?_⟩
                   have n0_ := qa40 (qk40 (qB40 (qu40 (show IsS71 w0 _ g s0_0 aQ from HI0.out) ac.out (by decide)) hk (fun _ h => h.2)) (fun _ h => h.1))
                   have n1_ := qa40 (qj40 hk (g' := ag) (o := .cells #[.slice none 0 0, .int .i64 0, .int .i64 0, .slice none 0 0, .int .i64 0] 26 (0, 0)) ae.out aq.out (by simp))
                   have n2_ := qa40 (qj40 hk (g' := ad) (o := .cells #[.slice ak ab.length aj, .int .i64 0, .int .i64 0, .slice none 0 0, .int .i64 ah] 26 (0, 0)) aa.out ap.out (by simp))
                   have n3_ := qa40 (qi40 HK.out hk (.inl rfl))
                   have n4_ := qa40 (hb)
                   have n5_ := qa40 (hi)
                   replace ac := n0_
                   replace ae := n1_
                   replace aa := n2_
                   replace HK := n3_
                   replace HB := n4_
                   replace HI0 := n5_
                   clear n0_ n1_ n2_ n3_ n4_ n5_
                   (try clear hb)
                   (try clear hb2)
                   (try clear hk)
                   (try clear hi)
                   refine hK.out _ _ ⟨(qc40 aa.out 0).trans rfl, (qc40 aa.out 1).trans rfl, (qc40 aa.out 2).trans rfl, (qc40 aa.out 3).trans rfl, (qc40 aa.out 4).trans rfl⟩ (fun hHeld => ?_)
                   clear hK K
                   refine norm_ (a' := ?_) ?_ ?_
                   rotate_left
                   ·show Act.put _ (some 33) _ = _
                    simp only [Act.put, qa_, qb_, qc_, i64_w, i32_w]
                    rfl
                   exact norm_ (by first | (simp only [putAll, Act.put, qa_, qb_, qc_]; done) | (simp only [putAll, Act.put, qa_, qb_, qc_]; rfl)) (c6 () _ ⟨hHeld, ac.out, ae.out, aa.out, HI0.out, HK.out, HB.out⟩)
                ·skip
                 rintro ⟨aM, am⟩ w26 ⟨hS_, h0_, h1_, h2_, h3_, h4_, h5_, h6_, h7_⟩
                 have n0_ : Aside0 (Kd.R (Kd.int .i64) 3 w26 w.heap.size (fun _ => True) aM y234) := ⟨h0_⟩
                 have n1_ : Aside0 (Kd.R k29 29 w26 w.heap.size (fun _ => True) (.slice ak ab.length aj) ab) := ⟨h1_⟩
                 have n2_ : Aside0 (∃ c_, (aM : Value) = .slice (some am) y234.length c_) := ⟨h2_⟩
                 have n3_ : Aside0 (w26.heap[ag]? = some (.cells #[.slice none 0 0, .int .i64 0, .int .i64 0, .slice none 0 0, .int .i64 0] 26 (0, 0))) := ⟨h3_⟩
                 have n4_ : Aside0 (w26.heap[ad]? = some (.cells #[.slice ak ab.length aj, .int .i64 0, .int .i64 0, .slice none 0 0, .int .i64 ah] 26 (0, 0))) := ⟨h4_⟩
                 have n5_ : Aside0 (IsS71 w0 w26 g s0_0 bc) := ⟨h5_⟩
                 have n6_ : Aside0 (KeepBut w w26 g none) := ⟨h6_⟩
                 have n7_ : Aside0 (Below w0.heap.size w0 w26) := ⟨h7_⟩
                 clear h0_ h1_ h2_ h3_ h4_ h5_ h6_ h7_
                 have ao := n0_
                 replace ac := n1_
                 have az := n2_
                 replace ae := n3_
                 replace aa := n4_
                 replace HI0 := n5_
                 replace HK := n6_
                 replace HB := n7_
                 clear n0_ n1_ n2_ n3_ n4_ n5_ n6_ n7_
                 have hHeld : w26.cell? ⟨ad, 0, none⟩ = some (.slice ak ab.length aj) ∧ w26.cell? ⟨ad, 1, none⟩ = some (.int .i64 0) ∧ w26.cell? ⟨ad, 2, none⟩ = some (.int .i64 0) ∧ w26.cell? ⟨ad, 3, none⟩ = some (.slice none 0 0) ∧ w26.cell? ⟨ad, 4, none⟩ = some (.int .i64 ah) := hS_
                 obtain ⟨dd, c9⟩ := az.out
                 clear az
                 subst c9
                 refine norm_ (a' := ?_) ?_ ?_
                 rotate_left
                 ·simp only [putAll, Act.put, qa_, qb_, qc_]
                  rfl
                 refine one_ (i := 9) (N := some 27) m40_21 rfl rfl (one_of HT_.out (by kernel_rfl)) (by decide) (fun K hK => ?_)
                 refine goes_ Tryd.func34 (by kernel_rfl) rfl #[.pointer (some ⟨g, 0, none⟩), .int .i64 4] (by rfl) rfl rfl (by (try simp only [ql40, qn40, qo40]); first | done | rfl | (simp only [qM40, qN40]; rfl)) ?_
                 with_reducible refine (spec_l20Rd_pick.calls k1 g s0_0 bc 4 ay aQ w0 _ ?side1 ?side2 A13.out).mono ?_
                 (case side1 => exact HI0.out)
                 (case side2 => exact HB.out)
                 rintro e w28 ⟨rfl, hi, hb, hk⟩
                 refine ⟨_, rfl, ?_⟩
                 have n0_ := qa40 (qk40 (qB40 (qu40 (show IsS71 w0 _ g s0_0 bc from HI0.out) ac.out (by decide)) hk (fun _ h => h.2)) (fun _ h => h.1))
                 have n1_ := qa40 (qj40 hk (g' := ag) (o := .cells #[.slice none 0 0, .int .i64 0, .int .i64 0, .slice none 0 0, .int .i64 0] 26 (0, 0)) ae.out aq.out (by simp))
                 have n2_ := qa40 (qj40 hk (g' := ad) (o := .cells #[.slice ak ab.length aj, .int .i64 0, .int .i64 0, .slice none 0 0, .int .i64 ah] 26 (0, 0)) aa.out ap.out (by simp))
                 have n3_ := qa40 (qk40 (qB40 (qu40 (show IsS71 w0 _ g s0_0 bc from HI0.out) ao.out (by decide)) hk (fun _ h => h.2)) (fun _ h => h.1))
                 have n4_ := qa40 (qi40 HK.out hk (.inl rfl))
                 have n5_ := qa40 (hb)
                 have n6_ := qa40 (hi)
                 replace ac := n0_
                 replace ae := n1_
                 replace aa := n2_
                 replace ao := n3_
                 replace HK := n4_
                 replace HB := n5_
                 replace HI0 := n6_
                 clear n0_ n1_ n2_ n3_ n4_ n5_ n6_
                 (try clear hb)
                 (try clear hb2)
                 (try clear hk)
                 (try clear hi)
                 refine hK.out _ _ ⟨(qc40 aa.out 0).trans rfl, (qc40 aa.out 1).trans rfl, (qc40 aa.out 2).trans rfl, (qc40 aa.out 3).trans rfl, (qc40 aa.out 4).trans rfl⟩ (fun hHeld => ?_)
                 clear hK K
                 refine norm_ (a' := ?_) ?_ ?_
                 rotate_left
                 ·show Act.put _ (some 27) _ = _
                  simp only [Act.put, qa_, qb_, qc_, i64_w, i32_w]
                  rfl
                 refine pure_ (i := 10) (N := some 28) (v := ?_) (a' := ?_) m40_13 rfl rfl (any_of HT_.out (by kernel_rfl)) (fun _ _ _ h => h) (Or.inl ⟨by rfl, ?_⟩) ?_ ?_
                 rotate_left
                 ·intro w'
                  go_simp
                  with_reducible rfl
                 rotate_left
                 ·simp only [Act.put, qa_, qb_, qc_, i64_w, i32_w]
                  rfl
                 exact norm_ (by first | (simp only [putAll, Act.put, qa_, qb_, qc_]; done) | (simp only [putAll, Act.put, qa_, qb_, qc_]; rfl)) (cq (.slice (some am) y234.length dd, am) _ ⟨hHeld, ao.out, ac.out, ⟨_, rfl⟩, ae.out, aa.out, HI0.out, HK.out, HB.out⟩)
               ·skip
                rintro _ w25 ⟨hS_, h0_, h1_, h2_, h3_, h4_, h5_⟩
                have n0_ : Aside0 (Kd.R k29 29 w25 w.heap.size (fun _ => True) (.slice ak ab.length aj) ab) := ⟨h0_⟩
                have n1_ : Aside0 (w25.heap[ag]? = some (.cells #[.slice none 0 0, .int .i64 0, .int .i64 0, .slice none 0 0, .int .i64 0] 26 (0, 0))) := ⟨h1_⟩
                have n2_ : Aside0 (w25.heap[ad]? = some (.cells #[.slice ak ab.length aj, .int .i64 0, .int .i64 0, .slice none 0 0, .int .i64 ah] 26 (0, 0))) := ⟨h2_⟩
                have n3_ : Aside0 (IsS71 w0 w25 g s0_0 a9) := ⟨h3_⟩
                have n4_ : Aside0 (KeepBut w w25 g none) := ⟨h4_⟩
                have n5_ : Aside0 (Below w0.heap.size w0 w25) := ⟨h5_⟩
                clear h0_ h1_ h2_ h3_ h4_ h5_
                replace ac := n0_
                replace ae := n1_
                replace aa := n2_
                replace HI0 := n3_
                replace HK := n4_
                replace HB := n5_
                clear n0_ n1_ n2_ n3_ n4_ n5_
                have hHeld : w25.cell? ⟨ad, 0, none⟩ = some (.slice ak ab.length aj) ∧ w25.cell? ⟨ad, 1, none⟩ = some (.int .i64 0) ∧ w25.cell? ⟨ad, 2, none⟩ = some (.int .i64 0) ∧ w25.cell? ⟨ad, 3, none⟩ = some (.slice none 0 0) ∧ w25.cell? ⟨ad, 4, none⟩ = some (.int .i64 ah) := hS_
                refine norm_ (a' := ?_) ?_ ?_
                rotate_left
                ·simp only [putAll, Act.put, qa_, qb_, qc_]
                 rfl
                refine one_ (i := 7) (N := some 25) m40_22 rfl rfl (one_of HT_.out (by kernel_rfl)) (by decide) (fun K hK => ?_)
                refine Kd.R_lit_step (Kd.int .i64) _ 3 ?hg (N := 25) ?hd (xs := ([10, 25, 50, 100] : List Int)) (inner := [.int .i64 10, .int .i64 25, .int .i64 50, .int .i64 100]) (ok := fun _ => True) (okp := fun _ => True) ?hr ?hp (fun _ hk => hk) trivial (Below.refl _ _) (Nat.le_refl _) (by simp) ?_; (case hd => rfl); (case hg => rfl); (case hr => go_simp <;> rfl); (case hp => exact (Reps.one (show Kd.M (Kd.int .i64) _ _ _ 10 [.int .i64 10] from rfl) (Reps.one (show Kd.M (Kd.int .i64) _ _ _ 25 [.int .i64 25] from rfl) (Reps.one (show Kd.M (Kd.int .i64) _ _ _ 50 [.int .i64 50] from rfl) (Reps.one (show Kd.M (Kd.int .i64) _ _ _ 100 [.int .i64 100] from rfl) (Reps.none _ _))))))
                intro aM w26 b4 hb hg_ hnew_
                clear hg_ hnew_
                (first | rw [← a2.out] at b4 | (simp only [Int.reduceToNat] at b4; rw [← a2.out] at b4))
                have n0_ := qa40 (Kd.R_below ac.out hb)
                have n1_ := qa40 (Kd.R_lower b4 (keep_size (w := w) (g := g) (row := none) HK.out))
                have n2_ := qa40 (qC40 (g := ag) (o := .cells #[.slice none 0 0, .int .i64 0, .int .i64 0, .slice none 0 0, .int .i64 0] 26 (0, 0)) ae.out hb)
                have n3_ := qa40 (qC40 (g := ad) (o := .cells #[.slice ak ab.length aj, .int .i64 0, .int .i64 0, .slice none 0 0, .int .i64 ah] 26 (0, 0)) aa.out hb)
                have n4_ := qa40 (IsS71.below HI0.out hb)
                have n5_ := qa40 (qi40 HK.out (qE40 hb g none) (.inl rfl))
                have n6_ := qa40 (below_step HB.out hb)
                replace ac := n0_
                have ao := n1_
                replace ae := n2_
                replace aa := n3_
                replace HI0 := n4_
                replace HK := n5_
                replace HB := n6_
                clear n0_ n1_ n2_ n3_ n4_ n5_ n6_
                clear hb b4
                obtain ⟨Ao28, bE, cm⟩ := Kd.R_slice ao.out
                subst cm
                obtain ⟨dv, gV, _⟩ := Kd.at_int (Kd.R_reads' ao.out).2.2 0 (by decide) (by rw [a2.out]; simp)
                cases gV
                refine hK.out _ _ ⟨(qc40 aa.out 0).trans rfl, (qc40 aa.out 1).trans rfl, (qc40 aa.out 2).trans rfl, (qc40 aa.out 3).trans rfl, (qc40 aa.out 4).trans rfl⟩ (fun hHeld => ?_)
                clear hK K
                refine norm_ (a' := ?_) ?_ ?_
                rotate_left
                ·show Act.put _ (some 25) _ = _
                 simp only [Act.put, qa_, qb_, qc_, i64_w, i32_w]
                 rfl
                refine pure_ (i := 10) (N := some 28) (v := ?_) (a' := ?_) m40_12 rfl rfl (any_of HT_.out (by kernel_rfl)) (fun _ _ _ h => h) (Or.inl ⟨by rfl, ?_⟩) ?_ ?_
                rotate_left
                ·intro w'
                 go_simp
                 with_reducible rfl
                rotate_left
                ·simp only [Act.put, qa_, qb_, qc_, i64_w, i32_w]
                 rfl
                exact norm_ (by first | (simp only [putAll, Act.put, qa_, qb_, qc_]; done) | (simp only [putAll, Act.put, qa_, qb_, qc_]; rfl)) (bK (.slice (some dv) y234.length bE, dv) _ ⟨hHeld, ao.out, ac.out, ⟨_, rfl⟩, ae.out, aa.out, HI0.out, HK.out, HB.out⟩)
              ·skip
               rintro ⟨aM, am⟩ w27 ⟨hS_, h0_, h1_, h2_, h3_, h4_, h5_, h6_, h7_⟩
               have n0_ : Aside0 (Kd.R (Kd.int .i64) 3 w27 w.heap.size (fun _ => True) aM y234) := ⟨h0_⟩
               have n1_ : Aside0 (Kd.R k29 29 w27 w.heap.size (fun _ => True) (.slice ak ab.length aj) ab) := ⟨h1_⟩
               have n2_ : Aside0 (∃ c_, (aM : Value) = .slice (some am) y234.length c_) := ⟨h2_⟩
               have n3_ : Aside0 (w27.heap[ag]? = some (.cells #[.slice none 0 0, .int .i64 0, .int .i64 0, .slice none 0 0, .int .i64 0] 26 (0, 0))) := ⟨h3_⟩
               have n4_ : Aside0 (w27.heap[ad]? = some (.cells #[.slice ak ab.length aj, .int .i64 0, .int .i64 0, .slice none 0 0, .int .i64 ah] 26 (0, 0))) := ⟨h4_⟩
               have n5_ : Aside0 (IsS71 w0 w27 g s0_0 aQ) := ⟨h5_⟩
               have n6_ : Aside0 (KeepBut w w27 g none) := ⟨h6_⟩
               have n7_ : Aside0 (Below w0.heap.size w0 w27) := ⟨h7_⟩
               clear h0_ h1_ h2_ h3_ h4_ h5_ h6_ h7_
               have ao := n0_
               replace ac := n1_
               have az := n2_
               replace ae := n3_
               replace aa := n4_
               replace HI0 := n5_
               replace HK := n6_
               replace HB := n7_
               clear n0_ n1_ n2_ n3_ n4_ n5_ n6_ n7_
               have hHeld : w27.cell? ⟨ad, 0, none⟩ = some (.slice ak ab.length aj) ∧ w27.cell? ⟨ad, 1, none⟩ = some (.int .i64 0) ∧ w27.cell? ⟨ad, 2, none⟩ = some (.int .i64 0) ∧ w27.cell? ⟨ad, 3, none⟩ = some (.slice none 0 0) ∧ w27.cell? ⟨ad, 4, none⟩ = some (.int .i64 ah) := hS_
               obtain ⟨bE, cm⟩ := az.out
               clear az
               subst cm
               refine norm_ (a' := ?_) ?_ ?_
               rotate_left
               ·simp only [putAll, Act.put, qa_, qb_, qc_]
                rfl
               refine two_ (i := 11) (j := 15) (Ni := some 29) (Nj := some 33) m40_23 m40_12 rfl rfl rfl rfl (two_of HT_.out (by kernel_rfl)) (by decide) (by decide) (fun K hK => ?_) (fun K hK => ?_)
               ·skip
                (have cb : 0 ≤ (ay : Int) := of_decide_eq_true (by first | (with_reducible assumption) | assumption); have b7 : ay < (y234.length : Int) := of_decide_eq_true (by first | (with_reducible assumption) | assumption); obtain ⟨cG, cW, bn⟩ := Kd.at_int (Kd.R_reads' ao.out).2.2 ay cb b7; obtain rfl : am = cG := (by injection cW))
                refine value_ (w1 := ?_) (v := ?_) (by rfl) rfl ?_ ?_
                rotate_left 2
                ·go_simp
                 constructor
                 ·rfl
                 ·rfl
                clear bn
                refine hK.out _ _ ⟨(qc40 aa.out 0).trans rfl, (qc40 aa.out 1).trans rfl, (qc40 aa.out 2).trans rfl, (qc40 aa.out 3).trans rfl, (qc40 aa.out 4).trans rfl⟩ (fun hHeld => ?_)
                clear hK K
                refine norm_ (a' := ?_) ?_ ?_
                rotate_left
                ·show Act.put _ (some 29) _ = _
                 simp only [Act.put, qa_, qb_, qc_, i64_w, i32_w]
                 rfl
                refine pure_ (i := 12) (N := some 30) (v := ?_) (a' := ?_) m40_11 rfl rfl (any_of HT_.out (by kernel_rfl)) (fun _ _ _ h => h) (Or.inl ⟨by rfl, ?_⟩) ?_ ?_
                rotate_left
                ·intro w'
                 go_simp
                 with_reducible rfl
                rotate_left
                ·simp only [Act.put, qa_, qb_, qc_, i64_w, i32_w]
                 rfl
                exact norm_ (by first | (simp only [putAll, Act.put, qa_, qb_, qc_]; done) | (simp only [putAll, Act.put, qa_, qb_, qc_]; rfl)) (cM (.slice (some am) y234.length bE, am) _ ⟨hHeld, ao.out, ac.out, ⟨_, rfl⟩, ae.out, aa.out, HI0.out, HK.out, HB.out⟩)
               ·skip
                refine goes_ Tryd.func34 (by kernel_rfl) rfl #[.pointer (some ⟨g, 0, none⟩), .int .i64 4] (by rfl) rfl rfl (by (try simp only [ql40, qn40, qo40]); first | done | rfl | (simp only [qM40, qN40]; rfl)) ?_
                with_reducible refine (spec_l20Rd_pick.calls k1 g s0_0 aQ 4 aN a9 w0 _ ?side1 ?side2 A16.out).mono ?_
                (case side1 => exact HI0.out)
                (case side2 => exact HB.out)
                rintro e w29 ⟨rfl, hi, hb, hk⟩
                refine ⟨_, rfl, ?_⟩
                have n0_ := qa40 (qk40 (qB40 (qu40 (show IsS71 w0 _ g s0_0 aQ from HI0.out) ac.out (by decide)) hk (fun _ h => h.2)) (fun _ h => h.1))
                have n1_ := qa40 (qj40 hk (g' := ag) (o := .cells #[.slice none 0 0, .int .i64 0, .int .i64 0, .slice none 0 0, .int .i64 0] 26 (0, 0)) ae.out aq.out (by simp))
                have n2_ := qa40 (qj40 hk (g' := ad) (o := .cells #[.slice ak ab.length aj, .int .i64 0, .int .i64 0, .slice none 0 0, .int .i64 ah] 26 (0, 0)) aa.out ap.out (by simp))
                have n3_ := qa40 (qk40 (qB40 (qu40 (show IsS71 w0 _ g s0_0 aQ from HI0.out) ao.out (by decide)) hk (fun _ h => h.2)) (fun _ h => h.1))
                have n4_ := qa40 (qi40 HK.out hk (.inl rfl))
                have n5_ := qa40 (hb)
                have n6_ := qa40 (hi)
                replace ac := n0_
                replace ae := n1_
                replace aa := n2_
                replace ao := n3_
                replace HK := n4_
                replace HB := n5_
                replace HI0 := n6_
                clear n0_ n1_ n2_ n3_ n4_ n5_ n6_
                (try clear hb)
                (try clear hb2)
                (try clear hk)
                (try clear hi)
                refine hK.out _ _ ⟨(qc40 aa.out 0).trans rfl, (qc40 aa.out 1).trans rfl, (qc40 aa.out 2).trans rfl, (qc40 aa.out 3).trans rfl, (qc40 aa.out 4).trans rfl⟩ (fun hHeld => ?_)
                clear hK K
                refine norm_ (a' := ?_) ?_ ?_
                rotate_left
                ·show Act.put _ (some 33) _ = _
                 simp only [Act.put, qa_, qb_, qc_, i64_w, i32_w]
                 rfl
                exact norm_ (by first | (simp only [putAll, Act.put, qa_, qb_, qc_]; done) | (simp only [putAll, Act.put, qa_, qb_, qc_]; rfl)) (bK (.slice (some am) y234.length bE, am) _ ⟨hHeld, ao.out, ac.out, ⟨_, rfl⟩, ae.out, aa.out, HI0.out, HK.out, HB.out⟩)
             ·skip
              rintro ⟨aM, am⟩ w28 ⟨hS_, h0_, h1_, h2_, h3_, h4_, h5_, h6_, h7_⟩
              have n0_ : Aside0 (Kd.R (Kd.int .i64) 3 w28 w.heap.size (fun _ => True) aM y234) := ⟨h0_⟩
              have n1_ : Aside0 (Kd.R k29 29 w28 w.heap.size (fun _ => True) (.slice ak ab.length aj) ab) := ⟨h1_⟩
              have n2_ : Aside0 (∃ c_, (aM : Value) = .slice (some am) y234.length c_) := ⟨h2_⟩
              have n3_ : Aside0 (w28.heap[ag]? = some (.cells #[.slice none 0 0, .int .i64 0, .int .i64 0, .slice none 0 0, .int .i64 0] 26 (0, 0))) := ⟨h3_⟩
              have n4_ : Aside0 (w28.heap[ad]? = some (.cells #[.slice ak ab.length aj, .int .i64 0, .int .i64 0, .slice none 0 0, .int .i64 ah] 26 (0, 0))) := ⟨h4_⟩
              have n5_ : Aside0 (IsS71 w0 w28 g s0_0 a9) := ⟨h5_⟩
              have n6_ : Aside0 (KeepBut w w28 g none) := ⟨h6_⟩
              have n7_ : Aside0 (Below w0.heap.size w0 w28) := ⟨h7_⟩
              clear h0_ h1_ h2_ h3_ h4_ h5_ h6_ h7_
              have ao := n0_
              replace ac := n1_
              have az := n2_
              replace ae := n3_
              replace aa := n4_
              replace HI0 := n5_
              replace HK := n6_
              replace HB := n7_
              clear n0_ n1_ n2_ n3_ n4_ n5_ n6_ n7_
              have hHeld : w28.cell? ⟨ad, 0, none⟩ = some (.slice ak ab.length aj) ∧ w28.cell? ⟨ad, 1, none⟩ = some (.int .i64 0) ∧ w28.cell? ⟨ad, 2, none⟩ = some (.int .i64 0) ∧ w28.cell? ⟨ad, 3, none⟩ = some (.slice none 0 0) ∧ w28.cell? ⟨ad, 4, none⟩ = some (.int .i64 ah) := hS_
              obtain ⟨cV, cR⟩ := az.out
              clear az
              subst cR
              refine norm_ (a' := ?_) ?_ ?_
              rotate_left
              ·simp only [putAll, Act.put, qa_, qb_, qc_]
               rfl
              refine one_ (i := 11) (N := some 29) m40_24 rfl rfl (one_of HT_.out (by kernel_rfl)) (by decide) (fun K hK => ?_)
              (have cb : 0 ≤ (ay : Int) := of_decide_eq_true (by first | (with_reducible assumption) | assumption); have b7 : ay < (y234.length : Int) := of_decide_eq_true (by first | (with_reducible assumption) | assumption); obtain ⟨cG, cW, bn⟩ := Kd.at_int (Kd.R_reads' ao.out).2.2 ay cb b7; obtain rfl : am = cG := (by injection cW))
              refine value_ (w1 := ?_) (v := ?_) (by rfl) rfl ?_ ?_
              rotate_left 2
              ·go_simp
               constructor
               ·rfl
               ·rfl
              clear bn
              refine hK.out _ _ ⟨(qc40 aa.out 0).trans rfl, (qc40 aa.out 1).trans rfl, (qc40 aa.out 2).trans rfl, (qc40 aa.out 3).trans rfl, (qc40 aa.out 4).trans rfl⟩ (fun hHeld => ?_)
              clear hK K
              refine norm_ (a' := ?_) ?_ ?_
              rotate_left
              ·show Act.put _ (some 29) _ = _
               simp only [Act.put, qa_, qb_, qc_, i64_w, i32_w]
               rfl
              refine pure_ (i := 12) (N := some 30) (v := ?_) (a' := ?_) m40_10 rfl rfl (any_of HT_.out (by kernel_rfl)) (fun _ _ _ h => h) (Or.inl ⟨by rfl, ?_⟩) ?_ ?_
              rotate_left
              ·intro w'
               go_simp
               with_reducible rfl
              rotate_left
              ·simp only [Act.put, qa_, qb_, qc_, i64_w, i32_w]
               rfl
              exact norm_ (by first | (simp only [putAll, Act.put, qa_, qb_, qc_]; done) | (simp only [putAll, Act.put, qa_, qb_, qc_]; rfl)) (br (.slice (some am) y234.length cV, am) _ ⟨hHeld, ao.out, ac.out, ⟨_, rfl⟩, ae.out, aa.out, HI0.out, HK.out, HB.out⟩)
            ·skip
             rintro ⟨aM, am⟩ w27 ⟨hS_, h0_, h1_, h2_, h3_, h4_, h5_, h6_, h7_⟩
             have n0_ : Aside0 (Kd.R (Kd.int .i64) 3 w27 w.heap.size (fun _ => True) aM y234) := ⟨h0_⟩
             have n1_ : Aside0 (Kd.R k29 29 w27 w.heap.size (fun _ => True) (.slice ak ab.length aj) ab) := ⟨h1_⟩
             have n2_ : Aside0 (∃ c_, (aM : Value) = .slice (some am) y234.length c_) := ⟨h2_⟩
             have n3_ : Aside0 (w27.heap[ag]? = some (.cells #[.slice none 0 0, .int .i64 0, .int .i64 0, .slice none 0 0, .int .i64 0] 26 (0, 0))) := ⟨h3_⟩
             have n4_ : Aside0 (w27.heap[ad]? = some (.cells #[.slice ak ab.length aj, .int .i64 0, .int .i64 0, .slice none 0 0, .int .i64 ah] 26 (0, 0))) := ⟨h4_⟩
             have n5_ : Aside0 (IsS71 w0 w27 g s0_0 aQ) := ⟨h5_⟩
             have n6_ : Aside0 (KeepBut w w27 g none) := ⟨h6_⟩
             have n7_ : Aside0 (Below w0.heap.size w0 w27) := ⟨h7_⟩
             clear h0_ h1_ h2_ h3_ h4_ h5_ h6_ h7_
             have ao := n0_
             replace ac := n1_
             have az := n2_
             replace ae := n3_
             replace aa := n4_
             replace HI0 := n5_
             replace HK := n6_
             replace HB := n7_
             clear n0_ n1_ n2_ n3_ n4_ n5_ n6_ n7_
             have hHeld : w27.cell? ⟨ad, 0, none⟩ = some (.slice ak ab.length aj) ∧ w27.cell? ⟨ad, 1, none⟩ = some (.int .i64 0) ∧ w27.cell? ⟨ad, 2, none⟩ = some (.int .i64 0) ∧ w27.cell? ⟨ad, 3, none⟩ = some (.slice none 0 0) ∧ w27.cell? ⟨ad, 4, none⟩ = some (.int .i64 ah) := hS_
             obtain ⟨bE, cm⟩ := az.out
             clear az
             subst cm
             refine norm_ (a' := ?_) ?_ ?_
             rotate_left
             ·simp only [putAll, Act.put, qa_, qb_, qc_]
              rfl
             refine two_ (i := 13) (j := 15) (Ni := some 31) (Nj := some 33) m40_9 m40_10 rfl rfl rfl rfl (two_of HT_.out (by kernel_rfl)) (by decide) (by decide) (fun K hK => ?_) (fun K hK => ?_)
             ·skip
              refine Kd.R_lit_step k29 _ 29 ?hg (N := 31) ?hd (xs := ([(⟨0, 0⟩ : S29), (⟨0, 0⟩ : S29), (⟨1, aE⟩ : S29), (⟨2, rd y234 ay⟩ : S29)] : List (S29))) (inner := [.int .i64 0, .int .i64 0, .int .i64 0, .int .i64 0, .int .i64 1, .int .i64 aE, .int .i64 2, .int .i64 (rd y234 ay)]) (ok := fun _ => True) (okp := fun _ => True) ?hr ?hp (fun _ hk => hk) trivial (Below.refl _ _) (Nat.le_refl _) (by simp) ?_; (case hd => rfl); (case hg => rfl); (case hr => go_simp <;> rfl); (case hp => exact (Reps.c2 (show Kd.M k29 _ _ _ (⟨0, 0⟩ : S29) [.int .i64 0, .int .i64 0] from (k29_mkM _ _ _ (⟨0, 0⟩ : S29) )) (Reps.c2 (show Kd.M k29 _ _ _ (⟨0, 0⟩ : S29) [.int .i64 0, .int .i64 0] from (k29_mkM _ _ _ (⟨0, 0⟩ : S29) )) (Reps.c2 (show Kd.M k29 _ _ _ (⟨1, aE⟩ : S29) [.int .i64 1, .int .i64 aE] from (k29_mkM _ _ _ (⟨1, aE⟩ : S29) )) (Reps.c2 (show Kd.M k29 _ _ _ (⟨2, rd y234 ay⟩ : S29) [.int .i64 2, .int .i64 (rd y234 ay)] from (k29_mkM _ _ _ (⟨2, rd y234 ay⟩ : S29) )) (Reps.none _ _))))))
              intro bo w29 bW hb hg_ hnew_
              clear hg_ hnew_
              (first | rw [← bB.out] at bW | (simp only [Int.reduceToNat] at bW; rw [← bB.out] at bW))
              have n0_ := qa40 (Kd.R_elder' ac.out (Kd.R_base bW) hb)
              have n1_ := qa40 (Kd.R_below ao.out hb)
              have n2_ := qa40 (Kd.R_lower (Kd.R_new' bW (Kd.R_lt ac.out)) (keep_size (w := w) (g := g) (row := none) HK.out))
              have n3_ := qa40 (qC40 (g := ag) (o := .cells #[.slice none 0 0, .int .i64 0, .int .i64 0, .slice none 0 0, .int .i64 0] 26 (0, 0)) ae.out hb)
              have n4_ := qa40 (qC40 (g := ad) (o := .cells #[.slice ak ab.length aj, .int .i64 0, .int .i64 0, .slice none 0 0, .int .i64 ah] 26 (0, 0)) aa.out hb)
              have n5_ := qa40 (IsS71.below HI0.out hb)
              have n6_ := qa40 (qi40 HK.out (qE40 hb g none) (.inl rfl))
              have n7_ := qa40 (below_step HB.out hb)
              replace ac := n0_
              replace ao := n1_
              have aV := n2_
              replace ae := n3_
              replace aa := n4_
              replace HI0 := n5_
              replace HK := n6_
              replace HB := n7_
              clear n0_ n1_ n2_ n3_ n4_ n5_ n6_ n7_
              clear hb bW
              obtain ⟨Ao31, dc, cS⟩ := Kd.R_slice aV.out
              subst cS
              obtain ⟨dn, fO, _⟩ := at_T29 (Kd.R_reads' aV.out).2.2 0 (by decide) (by rw [bB.out]; simp)
              cases fO
              refine hK.out _ _ ⟨(qc40 aa.out 0).trans rfl, (qc40 aa.out 1).trans rfl, (qc40 aa.out 2).trans rfl, (qc40 aa.out 3).trans rfl, (qc40 aa.out 4).trans rfl⟩ (fun hHeld => ?_)
              clear hK K
              refine norm_ (a' := ?_) ?_ ?_
              rotate_left
              ·show Act.put _ (some 31) _ = _
               simp only [Act.put, qa_, qb_, qc_, i64_w, i32_w]
               rfl
              exact norm_ (by first | (simp only [putAll, Act.put, qa_, qb_, qc_]; done) | (simp only [putAll, Act.put, qa_, qb_, qc_]; rfl)) (bZ (.slice (some am) y234.length bE, am, .slice (some dn) y240.length dc, dn) _ ⟨hHeld, ao.out, (by (with_reducible repeat (first | apply qy40 | apply qz40 | apply qA40)); exact qk40 aV.out (fun _ hk => hk.2)), (by (with_reducible repeat (first | apply qy40 | apply qz40 | apply qA40)); exact qk40 ac.out (fun _ hk => hk.2)), ⟨_, rfl⟩, ⟨_, rfl⟩, ae.out, aa.out, HI0.out, HK.out, HB.out⟩)
             ·skip
              refine goes_ Tryd.func34 (by kernel_rfl) rfl #[.pointer (some ⟨g, 0, none⟩), .int .i64 4] (by rfl) rfl rfl (by (try simp only [ql40, qn40, qo40]); first | done | rfl | (simp only [qM40, qN40]; rfl)) ?_
              with_reducible refine (spec_l20Rd_pick.calls k1 g s0_0 aQ 4 aN a9 w0 _ ?side1 ?side2 A16.out).mono ?_
              (case side1 => exact HI0.out)
              (case side2 => exact HB.out)
              rintro e w29 ⟨rfl, hi, hb, hk⟩
              refine ⟨_, rfl, ?_⟩
              have n0_ := qa40 (qk40 (qB40 (qu40 (show IsS71 w0 _ g s0_0 aQ from HI0.out) ac.out (by decide)) hk (fun _ h => h.2)) (fun _ h => h.1))
              have n1_ := qa40 (qj40 hk (g' := ag) (o := .cells #[.slice none 0 0, .int .i64 0, .int .i64 0, .slice none 0 0, .int .i64 0] 26 (0, 0)) ae.out aq.out (by simp))
              have n2_ := qa40 (qj40 hk (g' := ad) (o := .cells #[.slice ak ab.length aj, .int .i64 0, .int .i64 0, .slice none 0 0, .int .i64 ah] 26 (0, 0)) aa.out ap.out (by simp))
              have n3_ := qa40 (qk40 (qB40 (qu40 (show IsS71 w0 _ g s0_0 aQ from HI0.out) ao.out (by decide)) hk (fun _ h => h.2)) (fun _ h => h.1))
              have n4_ := qa40 (qi40 HK.out hk (.inl rfl))
              have n5_ := qa40 (hb)
              have n6_ := qa40 (hi)
              replace ac := n0_
              replace ae := n1_
              replace aa := n2_
              replace ao := n3_
              replace HK := n4_
              replace HB := n5_
              replace HI0 := n6_
              clear n0_ n1_ n2_ n3_ n4_ n5_ n6_
              (try clear hb)
              (try clear hb2)
              (try clear hk)
              (try clear hi)
              refine hK.out _ _ ⟨(qc40 aa.out 0).trans rfl, (qc40 aa.out 1).trans rfl, (qc40 aa.out 2).trans rfl, (qc40 aa.out 3).trans rfl, (qc40 aa.out 4).trans rfl⟩ (fun hHeld => ?_)
              clear hK K
              refine norm_ (a' := ?_) ?_ ?_
              rotate_left
              ·show Act.put _ (some 33) _ = _
               simp only [Act.put, qa_, qb_, qc_, i64_w, i32_w]
               rfl
              exact norm_ (by first | (simp only [putAll, Act.put, qa_, qb_, qc_]; done) | (simp only [putAll, Act.put, qa_, qb_, qc_]; rfl)) (br (.slice (some am) y234.length bE, am) _ ⟨hHeld, ao.out, ac.out, ⟨_, rfl⟩, ae.out, aa.out, HI0.out, HK.out, HB.out⟩)
           ·skip
            rintro ⟨aM, am⟩ w28 ⟨hS_, h0_, h1_, h2_, h3_, h4_, h5_, h6_, h7_⟩
            have n0_ : Aside0 (Kd.R (Kd.int .i64) 3 w28 w.heap.size (fun _ => True) aM y234) := ⟨h0_⟩
            have n1_ : Aside0 (Kd.R k29 29 w28 w.heap.size (fun _ => True) (.slice ak ab.length aj) ab) := ⟨h1_⟩
            have n2_ : Aside0 (∃ c_, (aM : Value) = .slice (some am) y234.length c_) := ⟨h2_⟩
            have n3_ : Aside0 (w28.heap[ag]? = some (.cells #[.slice none 0 0, .int .i64 0, .int .i64 0, .slice none 0 0, .int .i64 0] 26 (0, 0))) := ⟨h3_⟩
            have n4_ : Aside0 (w28.heap[ad]? = some (.cells #[.slice ak ab.length aj, .int .i64 0, .int .i64 0, .slice none 0 0, .int .i64 ah] 26 (0, 0))) := ⟨h4_⟩
            have n5_ : Aside0 (IsS71 w0 w28 g s0_0 a9) := ⟨h5_⟩
            have n6_ : Aside0 (KeepBut w w28 g none) := ⟨h6_⟩
            have n7_ : Aside0 (Below w0.heap.size w0 w28) := ⟨h7_⟩
            clear h0_ h1_ h2_ h3_ h4_ h5_ h6_ h7_
            have ao := n0_
            replace ac := n1_
            have az := n2_
            replace ae := n3_
            replace aa := n4_
            replace HI0 := n5_
            replace HK := n6_
            replace HB := n7_
            clear n0_ n1_ n2_ n3_ n4_ n5_ n6_ n7_
            have hHeld : w28.cell? ⟨ad, 0, none⟩ = some (.slice ak ab.length aj) ∧ w28.cell? ⟨ad, 1, none⟩ = some (.int .i64 0) ∧ w28.cell? ⟨ad, 2, none⟩ = some (.int .i64 0) ∧ w28.cell? ⟨ad, 3, none⟩ = some (.slice none 0 0) ∧ w28.cell? ⟨ad, 4, none⟩ = some (.int .i64 ah) := hS_
            obtain ⟨cV, cR⟩ := az.out
            clear az
            subst cR
            refine norm_ (a' := ?_) ?_ ?_
            rotate_left
            ·simp only [putAll, Act.put, qa_, qb_, qc_]
             rfl
            refine one_ (i := 13) (N := some 31) m40_8 rfl rfl (one_of HT_.out (by kernel_rfl)) (by decide) (fun K hK => ?_)
            refine Kd.R_lit_step k29 _ 29 ?hg (N := 31) ?hd (xs := ([(⟨0, 0⟩ : S29), (⟨0, 0⟩ : S29), (⟨1, aE⟩ : S29), (⟨2, rd y234 ay⟩ : S29)] : List (S29))) (inner := [.int .i64 0, .int .i64 0, .int .i64 0, .int .i64 0, .int .i64 1, .int .i64 aE, .int .i64 2, .int .i64 (rd y234 ay)]) (ok := fun _ => True) (okp := fun _ => True) ?hr ?hp (fun _ hk => hk) trivial (Below.refl _ _) (Nat.le_refl _) (by simp) ?_; (case hd => rfl); (case hg => rfl); (case hr => go_simp <;> rfl); (case hp => exact (Reps.c2 (show Kd.M k29 _ _ _ (⟨0, 0⟩ : S29) [.int .i64 0, .int .i64 0] from (k29_mkM _ _ _ (⟨0, 0⟩ : S29) )) (Reps.c2 (show Kd.M k29 _ _ _ (⟨0, 0⟩ : S29) [.int .i64 0, .int .i64 0] from (k29_mkM _ _ _ (⟨0, 0⟩ : S29) )) (Reps.c2 (show Kd.M k29 _ _ _ (⟨1, aE⟩ : S29) [.int .i64 1, .int .i64 aE] from (k29_mkM _ _ _ (⟨1, aE⟩ : S29) )) (Reps.c2 (show Kd.M k29 _ _ _ (⟨2, rd y234 ay⟩ : S29) [.int .i64 2, .int .i64 (rd y234 ay)] from (k29_mkM _ _ _ (⟨2, rd y234 ay⟩ : S29) )) (Reps.none _ _))))))
            intro bo w30 bS hb hg_ hnew_
            clear hg_ hnew_
            (first | rw [← bB.out] at bS | (simp only [Int.reduceToNat] at bS; rw [← bB.out] at bS))
            have n0_ := qa40 (Kd.R_elder' ac.out (Kd.R_base bS) hb)
            have n1_ := qa40 (Kd.R_below ao.out hb)
            have n2_ := qa40 (Kd.R_lower (Kd.R_new' bS (Kd.R_lt ac.out)) (keep_size (w := w) (g := g) (row := none) HK.out))
            have n3_ := qa40 (qC40 (g := ag) (o := .cells #[.slice none 0 0, .int .i64 0, .int .i64 0, .slice none 0 0, .int .i64 0] 26 (0, 0)) ae.out hb)
            have n4_ := qa40 (qC40 (g := ad) (o := .cells #[.slice ak ab.length aj, .int .i64 0, .int .i64 0, .slice none 0 0, .int .i64 ah] 26 (0, 0)) aa.out hb)
            have n5_ := qa40 (IsS71.below HI0.out hb)
            have n6_ := qa40 (qi40 HK.out (qE40 hb g none) (.inl rfl))
            have n7_ := qa40 (below_step HB.out hb)
            replace ac := n0_
            replace ao := n1_
            have aV := n2_
            replace ae := n3_
            replace aa := n4_
            replace HI0 := n5_
            replace HK := n6_
            replace HB := n7_
            clear n0_ n1_ n2_ n3_ n4_ n5_ n6_ n7_
            clear hb bS
            obtain ⟨Ao32, cD, b3⟩ := Kd.R_slice aV.out
            subst b3
            obtain ⟨dw, go, _⟩ := at_T29 (Kd.R_reads' aV.out).2.2 0 (by decide) (by rw [bB.out]; simp)
            cases go
            refine hK.out _ _ ⟨(qc40 aa.out 0).trans rfl, (qc40 aa.out 1).trans rfl, (qc40 aa.out 2).trans rfl, (qc40 aa.out 3).trans rfl, (qc40 aa.out 4).trans rfl⟩ (fun hHeld => ?_)
            clear hK K
            refine norm_ (a' := ?_) ?_ ?_
            rotate_left
            ·show Act.put _ (some 31) _ = _
             simp only [Act.put, qa_, qb_, qc_, i64_w, i32_w]
             rfl
            exact norm_ (by first | (simp only [putAll, Act.put, qa_, qb_, qc_]; done) | (simp only [putAll, Act.put, qa_, qb_, qc_]; rfl)) (bg (.slice (some am) y234.length cV, am, .slice (some dw) y240.length cD, dw) _ ⟨hHeld, ao.out, (by (with_reducible repeat (first | apply qy40 | apply qz40 | apply qA40)); exact qk40 aV.out (fun _ hk => hk.2)), (by (with_reducible repeat (first | apply qy40 | apply qz40 | apply qA40)); exact qk40 ac.out (fun _ hk => hk.2)), ⟨_, rfl⟩, ⟨_, rfl⟩, ae.out, aa.out, HI0.out, HK.out, HB.out⟩)
          ·skip
           rintro ⟨aM, am, bo, a3⟩ w30 ⟨hS_, h0_, h1_, h2_, h3_, h4_, h5_, h6_, h7_, h8_, h9_⟩
           have n0_ : Aside0 (Kd.R (Kd.int .i64) 3 w30 w.heap.size (fun _ => True) aM y234) := ⟨h0_⟩
           have n1_ : Aside0 (Kd.R k29 29 w30 w.heap.size (fun k_ => some k_ ≠ (.slice ak ab.length aj : Value).ownBlock) bo y240) := ⟨h1_⟩
           have n2_ : Aside0 (Kd.R k29 29 w30 w.heap.size (fun k_ => some k_ ≠ (bo : Value).ownBlock) (.slice ak ab.length aj) ab) := ⟨h2_⟩
           have n3_ : Aside0 (∃ c_, (aM : Value) = .slice (some am) y234.length c_) := ⟨h3_⟩
           have n4_ : Aside0 (∃ c_, (bo : Value) = .slice (some a3) y240.length c_) := ⟨h4_⟩
           have n5_ : Aside0 (w30.heap[ag]? = some (.cells #[.slice none 0 0, .int .i64 0, .int .i64 0, .slice none 0 0, .int .i64 0] 26 (0, 0))) := ⟨h5_⟩
           have n6_ : Aside0 (w30.heap[ad]? = some (.cells #[.slice ak ab.length aj, .int .i64 0, .int .i64 0, .slice none 0 0, .int .i64 ah] 26 (0, 0))) := ⟨h6_⟩
           have n7_ : Aside0 (IsS71 w0 w30 g s0_0 aQ) := ⟨h7_⟩
           have n8_ : Aside0 (KeepBut w w30 g none) := ⟨h8_⟩
           have n9_ : Aside0 (Below w0.heap.size w0 w30) := ⟨h9_⟩
           clear h0_ h1_ h2_ h3_ h4_ h5_ h6_ h7_ h8_ h9_
           have ao := n0_
           have aV := n1_
           replace ac := n2_
           have az := n3_
           have bf := n4_
           replace ae := n5_
           replace aa := n6_
           replace HI0 := n7_
           replace HK := n8_
           replace HB := n9_
           clear n0_ n1_ n2_ n3_ n4_ n5_ n6_ n7_ n8_ n9_
           have hHeld : w30.cell? ⟨ad, 0, none⟩ = some (.slice ak ab.length aj) ∧ w30.cell? ⟨ad, 1, none⟩ = some (.int .i64 0) ∧ w30.cell? ⟨ad, 2, none⟩ = some (.int .i64 0) ∧ w30.cell? ⟨ad, 3, none⟩ = some (.slice none 0 0) ∧ w30.cell? ⟨ad, 4, none⟩ = some (.int .i64 ah) := hS_
           obtain ⟨dc, cS⟩ := az.out
           clear az
           subst cS
           obtain ⟨cD, b3⟩ := bf.out
           clear bf
           subst b3
           refine norm_ (a' := ?_) ?_ ?_
           rotate_left
           ·simp only [putAll, Act.put, qa_, qb_, qc_]
            rfl
           refine one_ (i := 15) (N := some 33) m40_8 rfl rfl (one_of HT_.out (by kernel_rfl)) (by decide) (fun K hK => ?_)
           refine goes_ Tryd.func34 (by kernel_rfl) rfl #[.pointer (some ⟨g, 0, none⟩), .int .i64 4] (by rfl) rfl rfl (by (try simp only [ql40, qn40, qo40]); first | done | rfl | (simp only [qM40, qN40]; rfl)) ?_
           with_reducible refine (spec_l20Rd_pick.calls k1 g s0_0 aQ 4 aN a9 w0 _ ?side1 ?side2 A16.out).mono ?_
           (case side1 => exact HI0.out)
           (case side2 => exact HB.out)
           rintro e w33 ⟨rfl, hi, hb, hk⟩
           refine ⟨_, rfl, ?_⟩
           have n0_ := qa40 (qk40 (qB40 (qu40 (show IsS71 w0 _ g s0_0 aQ from HI0.out) ac.out (by decide)) hk (fun _ h => h.2)) (fun _ h => h.1))
           have n1_ := qa40 (qj40 hk (g' := ag) (o := .cells #[.slice none 0 0, .int .i64 0, .int .i64 0, .slice none 0 0, .int .i64 0] 26 (0, 0)) ae.out aq.out (by simp))
           have n2_ := qa40 (qj40 hk (g' := ad) (o := .cells #[.slice ak ab.length aj, .int .i64 0, .int .i64 0, .slice none 0 0, .int .i64 ah] 26 (0, 0)) aa.out ap.out (by simp))
           have n3_ := qa40 (qk40 (qB40 (qu40 (show IsS71 w0 _ g s0_0 aQ from HI0.out) ao.out (by decide)) hk (fun _ h => h.2)) (fun _ h => h.1))
           have n4_ := qa40 (qk40 (qB40 (qu40 (show IsS71 w0 _ g s0_0 aQ from HI0.out) aV.out (by decide)) hk (fun _ h => h.2)) (fun _ h => h.1))
           have n5_ := qa40 (qi40 HK.out hk (.inl rfl))
           have n6_ := qa40 (hb)
           have n7_ := qa40 (hi)
           replace ac := n0_
           replace ae := n1_
           replace aa := n2_
           replace ao := n3_
           replace aV := n4_
           replace HK := n5_
           replace HB := n6_
           replace HI0 := n7_
           clear n0_ n1_ n2_ n3_ n4_ n5_ n6_ n7_
           (try clear hb)
           (try clear hb2)
           (try clear hk)
           (try clear hi)
           refine hK.out _ _ ⟨(qc40 aa.out 0).trans rfl, (qc40 aa.out 1).trans rfl, (qc40 aa.out 2).trans rfl, (qc40 aa.out 3).trans rfl, (qc40 aa.out 4).trans rfl⟩ (fun hHeld => ?_)
           clear hK K
           refine norm_ (a' := ?_) ?_ ?_
           rotate_left
           ·show Act.put _ (some 33) _ = _
            simp only [Act.put, qa_, qb_, qc_, i64_w, i32_w]
            rfl
           exact norm_ (by first | (simp only [putAll, Act.put, qa_, qb_, qc_]; done) | (simp only [putAll, Act.put, qa_, qb_, qc_]; rfl)) (bg (.slice (some am) y234.length dc, am, .slice (some a3) y240.length cD, a3) _ ⟨hHeld, ao.out, aV.out, ac.out, ⟨_, rfl⟩, ⟨_, rfl⟩, ae.out, aa.out, HI0.out, HK.out, HB.out⟩)
         rintro ⟨aM, am, bo, a3⟩ w31 ⟨hS_, h0_, h1_, h2_, h3_, h4_, h5_, h6_, h7_, h8_, h9_⟩
         have n0_ : Aside0 (Kd.R (Kd.int .i64) 3 w31 w.heap.size (fun _ => True) aM y234) := ⟨h0_⟩
         have n1_ : Aside0 (Kd.R k29 29 w31 w.heap.size (fun k_ => some k_ ≠ (.slice ak ab.length aj : Value).ownBlock) bo y240) := ⟨h1_⟩
         have n2_ : Aside0 (Kd.R k29 29 w31 w.heap.size (fun k_ => some k_ ≠ (bo : Value).ownBlock) (.slice ak ab.length aj) ab) := ⟨h2_⟩
         have n3_ : Aside0 (∃ c_, (aM : Value) = .slice (some am) y234.length c_) := ⟨h3_⟩
         have n4_ : Aside0 (∃ c_, (bo : Value) = .slice (some a3) y240.length c_) := ⟨h4_⟩
         have n5_ : Aside0 (w31.heap[ag]? = some (.cells #[.slice none 0 0, .int .i64 0, .int .i64 0, .slice none 0 0, .int .i64 0] 26 (0, 0))) := ⟨h5_⟩
         have n6_ : Aside0 (w31.heap[ad]? = some (.cells #[.slice ak ab.length aj, .int .i64 0, .int .i64 0, .slice none 0 0, .int .i64 ah] 26 (0, 0))) := ⟨h6_⟩
         have n7_ : Aside0 (IsS71 w0 w31 g s0_0 a9) := ⟨h7_⟩
         have n8_ : Aside0 (KeepBut w w31 g none) := ⟨h8_⟩
         have n9_ : Aside0 (Below w0.heap.size w0 w31) := ⟨h9_⟩
         clear h0_ h1_ h2_ h3_ h4_ h5_ h6_ h7_ h8_ h9_
         have ao := n0_
         have aV := n1_
         replace ac := n2_
         have az := n3_
         have bf := n4_
         replace ae := n5_
         replace aa := n6_
         replace HI0 := n7_
         replace HK := n8_
         replace HB := n9_
         clear n0_ n1_ n2_ n3_ n4_ n5_ n6_ n7_ n8_ n9_
         have hHeld : w31.cell? ⟨ad, 0, none⟩ = some (.slice ak ab.length aj) ∧ w31.cell? ⟨ad, 1, none⟩ = some (.int .i64 0) ∧ w31.cell? ⟨ad, 2, none⟩ = some (.int .i64 0) ∧ w31.cell? ⟨ad, 3, none⟩ = some (.slice none 0 0) ∧ w31.cell? ⟨ad, 4, none⟩ = some (.int .i64 ah) := hS_
         obtain ⟨cD, b3⟩ := az.out
         clear az
         subst b3
         obtain ⟨eZ, f6⟩ := bf.out
         clear bf
         subst f6
         refine norm_ (a' := ?_) ?_ ?_
         rotate_left
         ·simp only [putAll, Act.put, qa_, qb_, qc_]
          rfl
         refine pure_ (i := 16) (N := some 34) (v := ?_) (a' := ?_) m40_25 rfl rfl (any_of HT_.out (by kernel_rfl)) (fun _ _ _ h => h) (Or.inl ⟨by rfl, ?_⟩) ?_ ?_
         rotate_left
         ·intro w'
          go_simp
          with_reducible rfl
         rotate_left
         ·simp only [Act.put, qa_, qb_, qc_, i64_w, i32_w]
          rfl
         refine one_ (i := 17) (N := some 35) m40_26 rfl rfl (one_of HT_.out (by kernel_rfl)) (by decide) (fun K hK => ?_)
         (have db : 0 ≤ (aN : Int) := of_decide_eq_true (by first | (with_reducible assumption) | assumption); have cX : aN < (y240.length : Int) := of_decide_eq_true (by first | (with_reducible assumption) | assumption); obtain ⟨eu, gY, bV, bR⟩ := at_T29 (Kd.R_reads' aV.out).2.2 aN db cX; obtain rfl : a3 = eu := (by injection gY))
         refine value_ (w1 := ?_) (v := ?_) (by rfl) rfl ?_ ?_
         rotate_left 2
         ·go_simp
          constructor
          ·rfl
          ·rfl
         clear bV bR
         refine hK.out _ _ ⟨(qc40 aa.out 0).trans rfl, (qc40 aa.out 1).trans rfl, (qc40 aa.out 2).trans rfl, (qc40 aa.out 3).trans rfl, (qc40 aa.out 4).trans rfl⟩ (fun hHeld => ?_)
         clear hK K
         refine norm_ (a' := ?_) ?_ ?_
         rotate_left
         ·show Act.put _ (some 35) _ = _
          simp only [Act.put, qa_, qb_, qc_, i64_w, i32_w]
          rfl
         refine one_ (i := 18) (N := some 36) m40_27 rfl rfl (one_of HT_.out (by kernel_rfl)) (by decide) (fun K hK => ?_)
         refine value_ (w1 := ?_) (v := ?_) (by rfl) rfl ?_ ?_
         rotate_left 2
         ·go_simp
          constructor
          ·rfl
          ·rfl
         refine hK.out _ _ ⟨(qc40 (qd40 aa.out _) 0).trans rfl, (qc40 (qd40 aa.out _) 1).trans rfl, (qc40 (qd40 aa.out _) 2).trans rfl, (qc40 (qd40 aa.out _) 3).trans rfl, (qc40 (qd40 aa.out _) 4).trans rfl⟩ (fun hHeld => ?_)
         clear hK K
         refine norm_ (a' := ?_) ?_ ?_
         rotate_left
         ·show Act.put _ (some 36) _ = _
          simp only [Act.put, qa_, qb_, qc_, i64_w, i32_w]
          rfl
         refine one_ (i := 19) (N := some 37) m40_28 rfl rfl (one_of HT_.out (by kernel_rfl)) (by decide) (fun K hK => ?_)
         refine Kd.R_append_step k29 w.heap.size (by rfl) (.tmp 19) (.tmp 36) 23 29 (.agg #[(.int .i64 0), (.int .i64 0)]) 16 rfl Tryd.underlying23 info29 rfl (by decide) (by omega) (.slice ak ab.length aj) ab (⟨(rd_T29 y240 aN).f0, (rd_T29 y240 aN).f1⟩ : S29) [.int .i64 ((rd_T29 y240 aN).f0), .int .i64 ((rd_T29 y240 aN).f1)] (fun k_ => some k_ ≠ (.slice (some a3) y240.length eZ : Value).ownBlock) (fun _ => False) rfl rfl ?aP (fun _ hk => hk.elim) ?aF ?aO (Below.refl _ _) ?aS ?aL ?_
         (case aP => exact k29_mkM _ _ _ (⟨(rd_T29 y240 aN).f0, (rd_T29 y240 aN).f1⟩ : S29))
         (case aF => exact (fun k_ hk => Kd.fresh' (Kd.R_lt (by (with_reducible repeat (first | apply qy40 | apply qz40 | apply qA40)); exact aV.out)) k_ hk))
         (case aO => exact (by (with_reducible repeat (first | apply qy40 | apply qz40 | apply qA40)); exact ac.out))
         (case aS => exact (keep_size (w := w) (g := g) (row := none) (by repeat (first | (with_reducible first | exact HK.out | apply qx40 | apply qH40 | apply qJ40 | apply qG40 | refine qm40 ?_ aG.out _ | refine qm40 ?_ aH.out _) | exact HK.out))))
         (case aL => have := ej.out; omega)
         intro v247 w34 ho hb hg hat
         rw [← ed.out] at ho
         have n0_ := qa40 (blk_grown (g := ag) (o := .cells #[.slice none 0 0, .int .i64 0, .int .i64 0, .slice none 0 0, .int .i64 0] 26 (0, 0)) ae.out hg (Kd.R_ne ac.out ae.out (by decide)))
         have n1_ := qa40 (blk_grown (g := ad) (o := .cells #[.slice ak ab.length aj, .int .i64 0, .int .i64 0, .slice none 0 0, .int .i64 ah] 26 (0, 0)) aa.out hg (Kd.R_ne ac.out aa.out (by decide)))
         have n2_ := qa40 (IsS71.grown HI0.out hg (IsS71.own_ne HI0.out ac.out (by decide)))
         have n3_ := qa40 (Kd.R_over' ao.out (Kd.R_typed ac.out) (by decide) hg)
         have n4_ := qa40 (Kd.R_after (ok := (fun _ => True)) (by (with_reducible repeat (first | apply qy40 | apply qz40 | apply qA40)); exact qk40 aV.out (fun _ hk => ⟨trivial, hk⟩)) hg hat)
         have n5_ := qa40 (below_weaken HB.out HL.out hb)
         have n6_ := qa40 (qi40 HK.out (KeepBut.of_grown hg g) (Kd.R_base2 ac.out))
         have n7_ := qa40 (ho)
         clear ac
         replace ae := n0_
         replace aa := n1_
         replace HI0 := n2_
         replace ao := n3_
         replace aV := n4_
         replace HB := n5_
         replace HK := n6_
         have dt := n7_
         clear n0_ n1_ n2_ n3_ n4_ n5_ n6_ n7_
         clear ho hb hg hat
         obtain ⟨dZ, d6, dF⟩ := Kd.R_slice dt.out
         (first | subst dF | (injection dF with f1_ f2_ f3_; have f4_ := f1_.symm; have f5_ := f3_.symm; clear f1_ f2_ f3_; subst f4_; subst f5_))
         refine hK.out _ _ ⟨(qc40 aa.out 0).trans rfl, (qc40 aa.out 1).trans rfl, (qc40 aa.out 2).trans rfl, (qc40 aa.out 3).trans rfl, (qc40 aa.out 4).trans rfl⟩ (fun hHeld => ?_)
         clear hK K
         refine norm_ (a' := ?_) ?_ ?_
         rotate_left
         ·show Act.put _ (some 37) _ = _
          simp only [Act.put, qa_, qb_, qc_, i64_w, i32_w]
          rfl
         refine pure_ (i := 20) (N := some 38) (v := ?_) (a' := ?_) m40_29 rfl rfl (any_of HT_.out (by kernel_rfl)) (fun _ _ _ h => h) (Or.inl ⟨by rfl, ?_⟩) ?_ ?_
         rotate_left
         ·intro w'
          go_simp
          with_reducible rfl
         rotate_left
         ·simp only [Act.put, qa_, qb_, qc_, i64_w, i32_w]
          rfl
         refine last_ (i := 21) (N := none) m40_30 rfl rfl (one_of HT_.out (by kernel_rfl)) (by decide) (fun K hK => ?_)
         have hs36 := bq40_ aa.out 0 rfl
         have hfs36 := qb40 aa.out 0
         have js := ar.out
         have h8 := aT.out
         refine skip_ (w1 := ?_) (by rfl) rfl ?_ ?_
         rotate_left
         ·go_simp
          rfl
         refine hK.out _ _ ?_
         clear hK K
         refine done_ (done_of HT_.out (by kernel_rfl)) ?_
         try go_wp2
         go_roundg k1
         case measure => have := HK1.out; omega
         case rel => exact ⟨(wrap64 (bm - 1)), (a9), (cO), (.slice dZ cO.length d6), (by first | rfl | (simp; done) | (simp [*]; done)), H', ⟨by have := HK1.out; omega⟩, ⟨by (with_reducible repeat (first | apply qy40 | apply qz40 | apply qA40)); exact qk40 (qD40 (p := ⟨ad, 0, none⟩) (qP40 dt.out aa.out (by decide)) (fun _ hk => hk.2) (.slice dZ cO.length d6)) (fun _ hk => trivial)⟩, ⟨by (with_reducible repeat (first | apply qe40 | apply qf40 | apply qd40)); refine blk_far ?_ ar.out _; (with_reducible repeat (first | apply qe40 | apply qf40 | apply qd40)); exact ae.out⟩, ⟨by (with_reducible repeat (first | apply qe40 | apply qf40 | apply qd40)); refine blk_put (cs := #[.slice ak ab.length aj, .int .i64 0, .int .i64 0, .slice none 0 0, .int .i64 ah]) ?_ 0 _ rfl; (with_reducible repeat (first | apply qe40 | apply qf40 | apply qd40)); exact aa.out⟩, ⟨by repeat (first | (with_reducible first | exact HI0.out | apply qr40 | apply qs40 | apply qv40 | apply qt40 | refine qg40 ?_ an.out _ | refine qg40 ?_ al.out _) | exact HI0.out)⟩, ⟨by repeat (first | (with_reducible first | exact HK.out | apply qx40 | apply qH40 | apply qJ40 | apply qG40 | refine qm40 ?_ aG.out _ | refine qm40 ?_ aH.out _) | exact HK.out)⟩, ⟨by repeat (first | (with_reducible first | exact HB.out | apply qI40 | apply qw40 | apply qF40 | refine qh40 ?_ (IsS71.ge HI0.out) | refine qh40 ?_ aJ.out | refine qh40 ?_ aK.out) | exact HB.out)⟩⟩
        ·rw [if_neg c19] at H
         exact absurd H (by simp)
       ·rw [if_neg c18] at H
        exact absurd H (by simp)
      ·rw [if_neg c17] at H
       exact absurd H (by simp)
     ·rw [if_neg c15] at H
      exact absurd H (by simp)
    ·rw [if_neg c14] at H
     exact absurd H (by simp)
   ·rw [if_neg c11] at H
    have cx : decide (0 < bm) = false := decide_eq_false c11
    clear c11
    replace H := Option.bind_eq_some_iff.mp H
    obtain ⟨⟨bj, dV⟩, d4, H⟩ := H
    (try dsimp only at H)
    have A37 := qa40 d4
    clear d4
    have H' := qa40 H
    clear H
    go_wp2_with (first | ((with_reducible refine gate_callee (f := 34) rfl ?_); refine goesL_ (some 40) rfl rfl Tryd.func34 (by kernel_rfl) rfl #[.pointer (some ⟨g, 0, none⟩), .int .i64 6] rfl (by (try simp only [ql40, qn40, qo40]) <;> rfl) ?_; (with_reducible refine (spec_l20Rd_pick.calls k1 g s0_0 aR 6 bj dV w0 _ ?side1 ?side2 A37.out).mono ?_); (case side1 => exact HI0.out); (case side2 => exact HB.out); rintro e w38 ⟨rfl, hi, hb, hk⟩; refine ⟨_, rfl, ?_⟩; have n0_ := qa40 (qk40 (qB40 (qu40 (show IsS71 w0 _ g s0_0 aR from HI0.out) ac.out (by decide)) hk (fun _ h => h.2)) (fun _ h => h.1)); have n1_ := qa40 (qj40 hk (g' := ag) (o := .cells #[.slice none 0 0, .int .i64 0, .int .i64 0, .slice none 0 0, .int .i64 0] 26 (0, 0)) ae.out aq.out (by simp)); have n2_ := qa40 (qj40 hk (g' := ad) (o := .cells #[au, .int .i64 0, .int .i64 0, .slice none 0 0, .int .i64 ah] 26 (0, 0)) aa.out ap.out (by simp)); have n3_ := qa40 (qi40 HK.out hk (.inl rfl)); have n4_ := qa40 (hb); have n5_ := qa40 (hi); replace ac := n0_; replace ae := n1_; replace aa := n2_; replace HK := n3_; replace HB := n4_; replace HI0 := n5_; clear n0_ n1_ n2_ n3_ n4_ n5_; (try clear hb hk hi)))
    go_loopg [6] k1 (fun kq v6 w' => ∃ (bl : Int) (aA : Int) (ai : List (S32)) (av : Value), v6 = .int .i64 bl ∧ Aside0 (spec_l20Table.l1 kq (wrap64 (1 + bj)) bl s0_0 aA ab 0 0 ai ah = some (r1, r2, r3, r4, r5, r6)) ∧ Aside0 (kq ≤ k1) ∧ Aside0 (Kd.R k29 29 w' w.heap.size (fun _ => True) au ab) ∧ Aside0 (Kd.S k32 32 w' w.heap.size (fun _ => True) av ai) ∧ Aside0 (w'.heap[ag]? = some (.cells #[(.slice none 0 0), .int .i64 0, .int .i64 0, (.slice none 0 0), .int .i64 0] 26 (0, 0))) ∧ Aside0 (w'.heap[ad]? = some (.cells #[au, .int .i64 0, .int .i64 0, av, .int .i64 ah] 26 (0, 0))) ∧ Aside0 (IsS71 w0 w' g s0_0 aA) ∧ Aside0 (KeepBut w w' g none) ∧ Aside0 (Below w0.heap.size w0 w'))
    case atStart => exact ⟨(0), (dV), (([] : List (S32))), (.slice none 0 0), (by first | rfl | (simp; done) | (simp [*]; done)), H', ⟨Nat.le_refl _⟩, ⟨by (with_reducible repeat (first | apply qy40 | apply qz40 | apply qA40)); exact ac.out⟩, ⟨by first | exact Kd.S_nil _ _ _ _ _ | exact Kd.N_nil _ _ _ _ _ | exact Kd.V_nil _ _ _ _ _ | exact Kd.Q_nil _ _ _ _ _ | exact Kd.R_nil _ _ _ _ _⟩, ⟨by (with_reducible repeat (first | apply qe40 | apply qf40 | apply qd40)); exact ae.out⟩, ⟨by (with_reducible repeat (first | apply qe40 | apply qf40 | apply qd40)); exact aa.out⟩, ⟨by repeat (first | (with_reducible first | exact HI0.out | apply qr40 | apply qs40 | apply qv40 | apply qt40 | refine qg40 ?_ an.out _ | refine qg40 ?_ al.out _) | exact HI0.out)⟩, ⟨by repeat (first | (with_reducible first | exact HK.out | apply qx40 | apply qH40 | apply qJ40 | apply qG40 | refine qm40 ?_ aG.out _ | refine qm40 ?_ aH.out _) | exact HK.out)⟩, ⟨by repeat (first | (with_reducible first | exact HB.out | apply qI40 | apply qw40 | apply qF40 | refine qh40 ?_ (IsS71.ge HI0.out) | refine qh40 ?_ aJ.out | refine qh40 ?_ aK.out) | exact HB.out)⟩⟩
    case round =>
     clear H'
     try clear c1
     try clear c2
     try clear p2
     try clear q2
     try clear hx2
     try clear c3
     try clear p6
     try clear c11
     try clear cx
     try clear c14
     try clear c15
     try clear c17
     try clear c18
     try clear c19
     try clear p23
     try clear q23
     try clear hx23
     try clear p24
     try clear q24
     try clear hx24
     try clear c34
     try clear bn
     try clear bV
     try clear bR
     try clear cb
     try clear db
     try clear b7
     try clear cX
     obtain ⟨bl, aA, ai, av, rfl, HA, HK2, ac, af, ae, aa, HI0, HK, HB⟩ := hrel
     cases gk with
     | zero => exact absurd HA.out (by simp [spec_l20Table.l1])
     | succ k2 =>
      have H := HA.out
      clear HA
      simp only [spec_l20Table.l1] at H
      by_cases c39 : bl < (wrap64 (1 + bj))
      ·rw [if_pos c39] at H
       have dq : decide (bl < (wrap64 (1 + bj))) = true := decide_eq_true c39
       clear c39
       replace H := Option.bind_eq_some_iff.mp H
       obtain ⟨⟨aW, ca⟩, dJ, H⟩ := H
       (try dsimp only at H)
       have A40 := qa40 dJ
       clear dJ
       replace H := Option.bind_eq_some_iff.mp H
       obtain ⟨⟨dG, d1⟩, dQ, H⟩ := H
       (try dsimp only at H)
       have A41 := qa40 dQ
       clear dQ
       have H' := qa40 H
       clear H
       go_wp2_with (first | ((with_reducible refine gate_callee (f := 34) rfl ?_); refine goesL_ (some 48) rfl rfl Tryd.func34 (by kernel_rfl) rfl #[.pointer (some ⟨g, 0, none⟩), .int .i64 4] rfl (by (try simp only [ql40, qn40, qo40]) <;> rfl) ?_; (with_reducible refine (spec_l20Rd_pick.calls k2 g s0_0 aA 4 aW ca w0 _ ?side1 ?side2 A40.out).mono ?_); (case side1 => exact HI0.out); (case side2 => exact HB.out); rintro e w42 ⟨rfl, hi, hb, hk⟩; refine ⟨_, rfl, ?_⟩; have n0_ := qa40 (qk40 (qB40 (qu40 (show IsS71 w0 _ g s0_0 aA from HI0.out) ac.out (by decide)) hk (fun _ h => h.2)) (fun _ h => h.1)); have n1_ := qa40 (qq40 (Kd.S_keep (qQ40 (show IsS71 w0 _ g s0_0 aA from HI0.out) af.out (by decide)) hk (fun _ h => h.2)) (fun _ h => h.1)); have n2_ := qa40 (qj40 hk (g' := ag) (o := .cells #[.slice none 0 0, .int .i64 0, .int .i64 0, .slice none 0 0, .int .i64 0] 26 (0, 0)) ae.out aq.out (by simp)); have n3_ := qa40 (qj40 hk (g' := ad) (o := .cells #[au, .int .i64 0, .int .i64 0, av, .int .i64 ah] 26 (0, 0)) aa.out ap.out (by simp)); have n4_ := qa40 (qi40 HK.out hk (.inl rfl)); have n5_ := qa40 (hb); have n6_ := qa40 (hi); replace ac := n0_; replace af := n1_; replace ae := n2_; replace aa := n3_; replace HK := n4_; replace HB := n5_; replace HI0 := n6_; clear n0_ n1_ n2_ n3_ n4_ n5_ n6_; (try clear hb hk hi)) | ((with_reducible refine gate_dst (N := 7) rfl ?_); refine box_event ?hg (N := 7) ?hd (cs := #[.slice none 0 0, .bool false]) (t := 32) ?hr ?_; (case hd => rfl); (case hg => rfl); (case hr => go_simp <;> rfl); intro aD hg w43 hbox hb; have n0_ := qa40 (Kd.R_below (by (with_reducible repeat (first | apply qy40 | apply qz40 | apply qA40)); exact ac.out) hb); have n1_ := qa40 (Kd.S_below (Kd.S_elderB (by (with_reducible repeat (first | apply qK40 | apply qL40 | apply qO40)); exact af.out) aD (Nat.le_of_eq hg.symm)) hb); have n2_ := qa40 (qC40 (g := ag) (by (with_reducible repeat (first | apply qe40 | apply qf40 | apply qd40)); exact ae.out) hb); have n3_ := qa40 (qC40 (g := ad) (by (with_reducible repeat (first | apply qe40 | apply qf40 | apply qd40)); exact aa.out) hb); have n4_ := qa40 (IsS71.below (by repeat (first | (with_reducible first | exact HI0.out | apply qr40 | apply qs40 | apply qv40 | apply qt40 | refine qg40 ?_ an.out _ | refine qg40 ?_ al.out _) | exact HI0.out)) hb); have n5_ := qa40 (qi40 (by repeat (first | (with_reducible first | exact HK.out | apply qx40 | apply qH40 | apply qJ40 | apply qG40 | refine qm40 ?_ aG.out _ | refine qm40 ?_ aH.out _) | exact HK.out)) (qE40 hb g none) (.inl rfl)); have n6_ := qa40 (below_step (by repeat (first | (with_reducible first | exact HB.out | apply qI40 | apply qw40 | apply qF40 | refine qh40 ?_ (IsS71.ge HI0.out) | refine qh40 ?_ aJ.out | refine qh40 ?_ aK.out) | exact HB.out)) hb); have n7_ := qa40 (hbox); have n8_ := qa40 ((by rw [hg]; exact (keep_size (w := w) (g := g) (row := none) (by repeat (first | (with_reducible first | exact HK.out | apply qx40 | apply qH40 | apply qJ40 | apply qG40 | refine qm40 ?_ aG.out _ | refine qm40 ?_ aH.out _) | exact HK.out))) : w.heap.size ≤ aD)); have n9_ := qa40 (Nat.le_trans HW0.out n8_.out); have bT := qa40 ((by rw [hg]; exact Nat.ne_of_lt (blk_lt (g := ag) (o := .cells #[.slice none 0 0, .int .i64 0, .int .i64 0, .slice none 0 0, .int .i64 0] 26 (0, 0)) (by (with_reducible repeat (first | apply qe40 | apply qf40 | apply qd40)); exact ae.out)) : ag ≠ aD)); have d0 := qa40 (Ne.symm bT.out); have cZ := qa40 ((by rw [hg]; exact Nat.ne_of_lt (blk_lt (g := ad) (o := .cells #[au, .int .i64 0, .int .i64 0, av, .int .i64 ah] 26 (0, 0)) (by (with_reducible repeat (first | apply qe40 | apply qf40 | apply qd40)); exact aa.out)) : ad ≠ aD)); have dI := qa40 (Ne.symm cZ.out); have cT := qa40 ((by rw [hg]; exact Nat.ne_of_lt (IsS71.lt (show IsS71 w0 _ g s0_0 ca from by repeat (first | (with_reducible first | exact HI0.out | apply qr40 | apply qs40 | apply qv40 | apply qt40 | refine qg40 ?_ an.out _ | refine qg40 ?_ al.out _) | exact HI0.out))) : g ≠ aD)); have d9 := qa40 (Ne.symm cT.out); replace ac := n0_; replace af := n1_; replace ae := n2_; replace aa := n3_; replace HI0 := n4_; replace HK := n5_; replace HB := n6_; have ax := n7_; have bG := n8_; have b2 := n9_; have a5 := bT; have bu := d0; have a4 := cZ; have bs := dI; have a6 := cT; have bx := d9; clear n0_ n1_ n2_ n3_ n4_ n5_ n6_ n7_ n8_ n9_ bT d0 cZ dI cT d9; clear hb hbox hg; have hnb44 := bu.out; have hnc44 := a5.out; have hnb45 := bs.out; have hnc45 := a4.out; have hnb46 := bx.out; have hnc46 := a6.out; have dC := bq40_ ax.out 0 rfl; have dA := bq40_ ax.out 1 rfl; have dB := qb40 ax.out 0; have dz := qb40 ax.out 1) | ((with_reducible refine gate_callee (f := 34) rfl ?_); refine goesL_ (some 52) rfl rfl Tryd.func34 (by kernel_rfl) rfl #[.pointer (some ⟨g, 0, none⟩), .int .i64 5] rfl (by (try simp only [ql40, qn40, qo40]) <;> rfl) ?_; (with_reducible refine (spec_l20Rd_pick.calls k2 g s0_0 ca 5 dG d1 w0 _ ?side1 ?side2 A41.out).mono ?_); (case side1 => repeat (first | (with_reducible first | exact HI0.out | apply qr40 | apply qs40 | apply qv40 | apply qt40 | refine qg40 ?_ an.out _ | refine qg40 ?_ al.out _ | refine qg40 ?_ a6.out _) | exact HI0.out)); (case side2 => repeat (first | (with_reducible first | exact HB.out | apply qI40 | apply qw40 | apply qF40 | refine qh40 ?_ (IsS71.ge HI0.out) | refine qh40 ?_ aJ.out | refine qh40 ?_ aK.out | refine qh40 ?_ b2.out) | exact HB.out)); rintro e w48 ⟨rfl, hi, hb, hk⟩; refine ⟨_, rfl, ?_⟩; have n0_ := qa40 (qk40 (qB40 (qu40 (show IsS71 w0 _ g s0_0 ca from by repeat (first | (with_reducible first | exact HI0.out | apply qr40 | apply qs40 | apply qv40 | apply qt40 | refine qg40 ?_ an.out _ | refine qg40 ?_ al.out _ | refine qg40 ?_ a6.out _) | exact HI0.out)) (by (with_reducible repeat (first | apply qy40 | apply qz40 | apply qA40)); exact (qk40 (qD40 (p := ⟨aD, 1, none⟩) (qD40 (p := ⟨aD, 0, none⟩) (qP40 ac.out ax.out (by decide)) (fun _ hk => hk.2) (.slice none 0 0)) (fun _ hk => hk.2) (.bool (aW == 0))) (fun _ h_ => h_.1))) (by decide)) hk (fun _ h => h.2)) (fun _ h => h.1)); have n1_ := qa40 (qq40 (Kd.S_keep (qQ40 (show IsS71 w0 _ g s0_0 ca from by repeat (first | (with_reducible first | exact HI0.out | apply qr40 | apply qs40 | apply qv40 | apply qt40 | refine qg40 ?_ an.out _ | refine qg40 ?_ al.out _ | refine qg40 ?_ a6.out _) | exact HI0.out)) (by (with_reducible repeat (first | apply qK40 | apply qL40 | apply qO40)); exact (qq40 (qp40 (p := ⟨aD, 1, none⟩) (qp40 (p := ⟨aD, 0, none⟩) (qq40 af.out (fun k_ hk => (⟨hk, hk.2⟩ : _ ∧ k_ ≠ aD))) (fun _ hk => hk.2) (.slice none 0 0)) (fun _ hk => hk.2) (.bool (aW == 0))) (fun _ h_ => h_.1))) (by decide)) hk (fun _ h => h.2)) (fun _ h => h.1)); have n2_ := qa40 (qj40 hk (g' := ag) (o := .cells #[.slice none 0 0, .int .i64 0, .int .i64 0, .slice none 0 0, .int .i64 0] 26 (0, 0)) (by (with_reducible repeat (first | apply qe40 | apply qf40 | apply qd40)); refine blk_far ?_ a5.out _; refine blk_far ?_ a5.out _; (with_reducible repeat (first | apply qe40 | apply qf40 | apply qd40)); exact ae.out) aq.out (by simp)); have n3_ := qa40 (qj40 hk (g' := ad) (o := .cells #[au, .int .i64 0, .int .i64 0, av, .int .i64 ah] 26 (0, 0)) (by (with_reducible repeat (first | apply qe40 | apply qf40 | apply qd40)); refine blk_far ?_ a4.out _; refine blk_far ?_ a4.out _; (with_reducible repeat (first | apply qe40 | apply qf40 | apply qd40)); exact aa.out) ap.out (by simp)); have n4_ := qa40 (qj40 hk (g' := aD) (o := .cells #[.slice none 0 0, .bool (aW == 0)] 32 (0, 0)) (by (with_reducible repeat (first | apply qe40 | apply qf40 | apply qd40)); refine blk_put (cs := #[.slice none 0 0, .bool false]) ?_ 1 _ rfl; refine blk_put (cs := #[.slice none 0 0, .bool false]) ?_ 0 _ rfl; (with_reducible repeat (first | apply qe40 | apply qf40 | apply qd40)); exact ax.out) bx.out (by simp)); have n5_ := qa40 (qi40 (by repeat (first | (with_reducible first | exact HK.out | apply qx40 | apply qH40 | apply qJ40 | apply qG40 | refine qm40 ?_ aG.out _ | refine qm40 ?_ aH.out _ | refine qm40 ?_ bG.out _) | exact HK.out)) hk (.inl rfl)); have n6_ := qa40 (hb); have n7_ := qa40 (hi); replace ac := n0_; replace af := n1_; replace ae := n2_; replace aa := n3_; replace ax := n4_; replace HK := n5_; replace HB := n6_; replace HI0 := n7_; clear n0_ n1_ n2_ n3_ n4_ n5_ n6_ n7_; (try clear hb hk hi)))
       go_loopg [8] k2 (fun kq v8 w' => ∃ (bv : Int) (aX : Int) (aI : List (S37)) (aY : Value), v8 = .int .i64 bv ∧ Aside0 (spec_l20Table.l2 kq (wrap64 (1 + bj)) bl bv s0_0 aX ab 0 0 ai ah aI (aW == 0) = some (r1, r2, r3, r4, r5, r6)) ∧ Aside0 (kq ≤ k2) ∧ Aside0 (Kd.R k29 29 w' w.heap.size (fun _ => True) au ab) ∧ Aside0 (Kd.S k32 32 w' w.heap.size (fun k_ => some k_ ≠ (aY : Value).ownBlock ∧ k_ ≠ aD) av ai) ∧ Aside0 (Kd.R k37 37 w' w.heap.size (fun _ => True) aY aI) ∧ Aside0 (w'.heap[ag]? = some (.cells #[(.slice none 0 0), .int .i64 0, .int .i64 0, (.slice none 0 0), .int .i64 0] 26 (0, 0))) ∧ Aside0 (w'.heap[ad]? = some (.cells #[au, .int .i64 0, .int .i64 0, av, .int .i64 ah] 26 (0, 0))) ∧ Aside0 (w'.heap[aD]? = some (.cells #[aY, .bool (aW == 0)] 32 (0, 0))) ∧ Aside0 (IsS71 w0 w' g s0_0 aX) ∧ Aside0 (KeepBut w w' g none) ∧ Aside0 (Below w0.heap.size w0 w'))
       case atStart => exact ⟨(dG), (d1), (([] : List (S37))), (.slice none 0 0), (by first | rfl | (simp; done) | (simp [*]; done)), H', ⟨Nat.le_refl _⟩, ⟨by (with_reducible repeat (first | apply qy40 | apply qz40 | apply qA40)); exact ac.out⟩, ⟨by (with_reducible repeat (first | apply qK40 | apply qL40 | apply qO40)); exact qq40 af.out (fun _ hk => ⟨(by simp [Value.ownBlock]), hk.2⟩)⟩, ⟨by first | exact Kd.R_nil _ _ _ _ _ | exact Kd.N_nil _ _ _ _ _ | exact Kd.V_nil _ _ _ _ _ | exact Kd.Q_nil _ _ _ _ _ | exact Kd.S_nil _ _ _ _ _⟩, ⟨by (with_reducible repeat (first | apply qe40 | apply qf40 | apply qd40)); exact ae.out⟩, ⟨by (with_reducible repeat (first | apply qe40 | apply qf40 | apply qd40)); exact aa.out⟩, ⟨by (with_reducible repeat (first | apply qe40 | apply qf40 | apply qd40)); exact ax.out⟩, ⟨by repeat (first | (with_reducible first | exact HI0.out | apply qr40 | apply qs40 | apply qv40 | apply qt40 | refine qg40 ?_ an.out _ | refine qg40 ?_ al.out _ | refine qg40 ?_ a6.out _) | exact HI0.out)⟩, ⟨by repeat (first | (with_reducible first | exact HK.out | apply qx40 | apply qH40 | apply qJ40 | apply qG40 | refine qm40 ?_ aG.out _ | refine qm40 ?_ aH.out _ | refine qm40 ?_ bG.out _) | exact HK.out)⟩, ⟨by repeat (first | (with_reducible first | exact HB.out | apply qI40 | apply qw40 | apply qF40 | refine qh40 ?_ (IsS71.ge HI0.out) | refine qh40 ?_ aJ.out | refine qh40 ?_ aK.out | refine qh40 ?_ b2.out) | exact HB.out)⟩⟩
       case round =>
        clear H'
        try clear c1
        try clear c2
        try clear p2
        try clear q2
        try clear hx2
        try clear c3
        try clear c4
        try clear p6
        try clear c11
        try clear cx
        try clear c14
        try clear c15
        try clear c17
        try clear c18
        try clear c19
        try clear p23
        try clear q23
        try clear hx23
        try clear p24
        try clear q24
        try clear hx24
        try clear c34
        try clear c39
        try clear dq
        try clear c44
        try clear c45
        try clear c46
        try clear dC
        try clear dA
        try clear dB
        try clear dz
        try clear bn
        try clear bV
        try clear bR
        try clear p2
        try clear p23
        try clear cb
        try clear p24
        try clear db
        try clear p6
        try clear q2
        try clear q23
        try clear b7
        try clear q24
        try clear cX
        obtain ⟨bv, aX, aI, aY, rfl, HA, HK3, ac, af, aC, ae, aa, ax, HI0, HK, HB⟩ := hrel
        cases gk with
        | zero => exact absurd HA.out (by simp [spec_l20Table.l2])
        | succ k3 =>
         have H := HA.out
         clear HA
         simp only [spec_l20Table.l2] at H
         by_cases c49 : bv > 0
         ·rw [if_pos c49] at H
          have ei : decide (0 < bv) = true := decide_eq_true c49
          clear c49
          replace H := Option.bind_eq_some_iff.mp H
          obtain ⟨⟨ce, b5, b6, cp, cd, b8, cn, b9, ck, ch, ci, c5⟩, dS, H⟩ := H
          (try dsimp only at H)
          have A50 := qa40 dS
          clear dS
          by_cases c51 : aI.length < 1466015503701
          ·rw [if_pos c51] at H
           have eo := qa40 c51
           clear c51
           obtain ⟨bU, bN⟩ : ∃ y_ : List (S37), y_ = (aI ++ [(⟨ce, b5, b6, (⟨cp, cd⟩ : S35), (⟨b8, cn⟩ : S35), (⟨b9, ck⟩ : S35), (⟨ch, ci⟩ : S35)⟩ : S37)]) := ⟨_, rfl⟩
           replace H : (spec_l20Table.l2 k3 (wrap64 (1 + bj)) bl (wrap64 (bv - 1)) s0_0 c5 ab 0 0 ai ah bU (aW == 0)) = some (r1, r2, r3, r4, r5, r6) := by first | (rw [bN]; with_reducible exact H) | (have H2_ := (Option.bind_some _ _).symm.trans H; rw [bN]; with_reducible exact H2_) | (have H2_ := (Option.bind_some _ _).symm.trans H; with_reducible exact H2_) | with_reducible exact H | (rw [bN]; exact H) | exact H
           have ew := qa40 bN
           clear bN
           have H' := qa40 H
           clear H
           try go_wp2
           have n0_ := qa40 (qA40 ac.out)
           have n1_ := qa40 (qO40 af.out)
           have n2_ := qa40 (qA40 aC.out)
           have n3_ := qa40 (qf40 ae.out)
           have n4_ := qa40 (qf40 aa.out)
           have n5_ := qa40 (qf40 ax.out)
           have n6_ := qa40 (qv40 HI0.out)
           have n7_ := qa40 (qJ40 HK.out)
           have n8_ := qa40 (qF40 HB.out)
           replace ac := n0_
           replace af := n1_
           replace aC := n2_
           replace ae := n3_
           replace aa := n4_
           replace ax := n5_
           replace HI0 := n6_
           replace HK := n7_
           replace HB := n8_
           clear n0_ n1_ n2_ n3_ n4_ n5_ n6_ n7_ n8_
           refine start_ (n := 8) (S := fun w' => w'.cell? ⟨aD, 0, none⟩ = some (aY) ∧ w'.cell? ⟨aD, 1, none⟩ = some (.bool (aW == 0))) (ds := [7]) #[false, false, false, false, false, false, false, false] (by kernel_rfl) rfl rfl ⟨(qc40 ax.out 0).trans rfl, (qc40 ax.out 1).trans rfl⟩ (fun hHeld => ?_); refine with_tabW spec_l20Table.tab14 spec_l20Table.bits14 (fun HT_ HW_ => ?_)
           generalize wr.drew = w52 at ac af aC ae aa ax HI0 HK HB hHeld ⊢
           refine pure_ (i := 0) (N := some 57) (v := ?_) (a' := ?_) #[true, false, false, false, false, false, false, false] rfl rfl (any_of HT_.out (by kernel_rfl)) (fun _ _ _ h => h) (Or.inl ⟨by rfl, ?_⟩) ?_ ?_
           rotate_left
           ·intro w'
            go_simp
            with_reducible rfl
           rotate_left
           ·simp only [Act.put, qa_, qb_, qc_, i64_w, i32_w]
            rfl
           refine pure_ (i := 2) (N := some 59) (v := ?_) (a' := ?_) #[true, false, true, false, false, false, false, false] rfl rfl (any_of HT_.out (by kernel_rfl)) (fun _ _ _ h => h) (Or.inl ⟨by rfl, ?_⟩) ?_ ?_
           rotate_left
           ·intro w'
            go_simp
            with_reducible rfl
           rotate_left
           ·simp only [Act.put, qa_, qb_, qc_, i64_w, i32_w]
            rfl
           refine take_ (i := 1) (N := some 58) (v := ?_) (a' := ?_) #[true, true, true, false, false, false, false, false] rfl rfl (take_ofW HT_.out HW_.out (by kernel_rfl)) (fun _ _ _ h => h) (Or.inl ⟨by rfl, ?_⟩) hHeld ?_ ?_
           rotate_left
           ·rintro w' ⟨s0, s1⟩
            go_simp
            with_reducible rfl
           rotate_left
           ·simp only [Act.put, qa_, qb_, qc_, i64_w, i32_w]
            rfl
           refine one_ (i := 3) (N := some 60) #[true, true, true, true, false, false, false, false] rfl rfl (one_of HT_.out (by kernel_rfl)) (by decide) (fun K hK => ?_)
           refine goes_ Tryd.func41 (by kernel_rfl) rfl #[.pointer (some ⟨g, 0, none⟩), .int .i64 99999] (by rfl) rfl rfl (by (try simp only [ql40, qn40, qo40]); first | done | rfl | (simp only [qM40, qN40]; rfl)) ?_
           with_reducible refine (spec_l20Cell.calls k3 g s0_0 aX 99999 ce b5 b6 cp cd b8 cn b9 ck ch ci c5 w0 _ ?side1 ?side2 A50.out).mono ?_
           (case side1 => exact HI0.out)
           (case side2 => exact HB.out)
           rintro e w53 ⟨rfl, hi, hb, hk⟩
           refine ⟨_, rfl, ?_⟩
           have n0_ := qa40 (qk40 (qB40 (qu40 (show IsS71 w0 _ g s0_0 aX from HI0.out) ac.out (by decide)) hk (fun _ h => h.2)) (fun _ h => h.1))
           have n1_ := qa40 (qq40 (Kd.S_keep (qQ40 (show IsS71 w0 _ g s0_0 aX from HI0.out) af.out (by decide)) hk (fun _ h => h.2)) (fun _ h => h.1))
           have n2_ := qa40 (qk40 (qB40 (qu40 (show IsS71 w0 _ g s0_0 aX from HI0.out) aC.out (by decide)) hk (fun _ h => h.2)) (fun _ h => h.1))
           have n3_ := qa40 (qj40 hk (g' := ag) (o := .cells #[.slice none 0 0, .int .i64 0, .int .i64 0, .slice none 0 0, .int .i64 0] 26 (0, 0)) ae.out aq.out (by simp))
           have n4_ := qa40 (qj40 hk (g' := ad) (o := .cells #[au, .int .i64 0, .int .i64 0, av, .int .i64 ah] 26 (0, 0)) aa.out ap.out (by simp))
           have n5_ := qa40 (qj40 hk (g' := aD) (o := .cells #[aY, .bool (aW == 0)] 32 (0, 0)) ax.out bx.out (by simp))
           have n6_ := qa40 (qi40 HK.out hk (.inl rfl))
           have n7_ := qa40 (hb)
           have n8_ := qa40 (hi)
           replace ac := n0_
           replace af := n1_
           replace aC := n2_
           replace ae := n3_
           replace aa := n4_
           replace ax := n5_
           replace HK := n6_
           replace HB := n7_
           replace HI0 := n8_
           clear n0_ n1_ n2_ n3_ n4_ n5_ n6_ n7_ n8_
           (try clear hb)
           (try clear hb2)
           (try clear hk)
           (try clear hi)
           refine hK.out _ _ ⟨(qc40 ax.out 0).trans rfl, (qc40 ax.out 1).trans rfl⟩ (fun hHeld => ?_)
           clear hK K
           refine norm_ (a' := ?_) ?_ ?_
           rotate_left
           ·show Act.put _ (some 60) _ = _
            simp only [Act.put, qa_, qb_, qc_, i64_w, i32_w]
            rfl
           refine one_ (i := 4) (N := some 61) #[true, true, true, true, true, false, false, false] rfl rfl (one_of HT_.out (by kernel_rfl)) (by decide) (fun K hK => ?_)
           refine value_ (w1 := ?_) (v := ?_) (by rfl) rfl ?_ ?_
           rotate_left 2
           ·go_simp
            constructor
            ·rfl
            ·rfl
           refine hK.out _ _ ⟨(qc40 (qd40 ax.out _) 0).trans rfl, (qc40 (qd40 ax.out _) 1).trans rfl⟩ (fun hHeld => ?_)
           clear hK K
           refine norm_ (a' := ?_) ?_ ?_
           rotate_left
           ·show Act.put _ (some 61) _ = _
            simp only [Act.put, qa_, qb_, qc_, i64_w, i32_w]
            rfl
           refine one_ (i := 5) (N := some 62) #[true, true, true, true, true, true, false, false] rfl rfl (one_of HT_.out (by kernel_rfl)) (by decide) (fun K hK => ?_)
           refine Kd.R_append_step k37 w.heap.size (by rfl) (.tmp 58) (.tmp 61) 30 37 (.agg #[(.string ⟨#[]⟩), (.int .i64 0), (.int .i64 0), (.int .i64 0), (.int .i64 0), (.int .i64 0), (.int .i64 0), (.int .i64 0), (.int .i64 0), (.int .i64 0), (.int .i64 0)]) 96 rfl Tryd.underlying30 info37 rfl (by decide) (by omega) aY aI (⟨ce, b5, b6, (⟨cp, cd⟩ : S35), (⟨b8, cn⟩ : S35), (⟨b9, ck⟩ : S35), (⟨ch, ci⟩ : S35)⟩ : S37) [.string ce, .int .i64 b5, .int .i64 b6, .int .i64 cp, .int .i64 cd, .int .i64 b8, .int .i64 cn, .int .i64 b9, .int .i64 ck, .int .i64 ch, .int .i64 ci] (fun _ => True) (fun _ => False) rfl rfl ?aP (fun _ hk => hk.elim) ?aF ?aO (Below.refl _ _) ?aS ?aL ?_
           (case aP => exact k37_mkM _ _ _ (⟨ce, b5, b6, (⟨cp, cd⟩ : S35), (⟨b8, cn⟩ : S35), (⟨b9, ck⟩ : S35), (⟨ch, ci⟩ : S35)⟩ : S37))
           (case aF => exact (fun _ _ => trivial))
           (case aO => exact (by (with_reducible repeat (first | apply qy40 | apply qz40 | apply qA40)); exact aC.out))
           (case aS => exact (keep_size (w := w) (g := g) (row := none) (by repeat (first | (with_reducible first | exact HK.out | apply qx40 | apply qH40 | apply qJ40 | apply qG40 | refine qm40 ?_ aG.out _ | refine qm40 ?_ aH.out _ | refine qm40 ?_ bG.out _) | exact HK.out))))
           (case aL => have := eo.out; omega)
           intro v269 w54 ho hb hg hat
           rw [← ew.out] at ho
           have n0_ := qa40 (Kd.R_over' ac.out (Kd.R_typed aC.out) (by decide) hg)
           have n1_ := qa40 (Kd.S_after (ok := (fun k_ => k_ ≠ aD)) (by (with_reducible repeat (first | apply qK40 | apply qL40 | apply qO40)); exact qq40 af.out (fun _ hk => ⟨hk.2, hk.1⟩)) hg hat)
           have n2_ := qa40 (blk_grown (g := ag) (o := .cells #[.slice none 0 0, .int .i64 0, .int .i64 0, .slice none 0 0, .int .i64 0] 26 (0, 0)) ae.out hg (Kd.R_ne aC.out ae.out (by decide)))
           have n3_ := qa40 (blk_grown (g := ad) (o := .cells #[au, .int .i64 0, .int .i64 0, av, .int .i64 ah] 26 (0, 0)) aa.out hg (Kd.R_ne aC.out aa.out (by decide)))
           have n4_ := qa40 (blk_grown (g := aD) (o := .cells #[aY, .bool (aW == 0)] 32 (0, 0)) ax.out hg (Kd.R_ne aC.out ax.out (by decide)))
           have n5_ := qa40 (IsS71.grown HI0.out hg (IsS71.own_ne HI0.out aC.out (by decide)))
           have n6_ := qa40 (below_weaken HB.out HL.out hb)
           have n7_ := qa40 (qi40 HK.out (KeepBut.of_grown hg g) (Kd.R_base2 aC.out))
           have n8_ := qa40 (ho)
           clear aC
           replace ac := n0_
           replace af := n1_
           replace ae := n2_
           replace aa := n3_
           replace ax := n4_
           replace HI0 := n5_
           replace HB := n6_
           replace HK := n7_
           have dg := n8_
           clear n0_ n1_ n2_ n3_ n4_ n5_ n6_ n7_ n8_
           clear ho hb hg hat
           obtain ⟨ct, cP, dL⟩ := Kd.R_slice dg.out
           (first | subst dL | (injection dL with f1_ f2_ f3_; have f4_ := f1_.symm; have f5_ := f3_.symm; clear f1_ f2_ f3_; subst f4_; subst f5_))
           refine hK.out _ _ ⟨(qc40 ax.out 0).trans rfl, (qc40 ax.out 1).trans rfl⟩ (fun hHeld => ?_)
           clear hK K
           refine norm_ (a' := ?_) ?_ ?_
           rotate_left
           ·show Act.put _ (some 62) _ = _
            simp only [Act.put, qa_, qb_, qc_, i64_w, i32_w]
            rfl
           refine pure_ (i := 6) (N := some 63) (v := ?_) (a' := ?_) #[true, true, true, true, true, true, true, false] rfl rfl (any_of HT_.out (by kernel_rfl)) (fun _ _ _ h => h) (Or.inl ⟨by rfl, ?_⟩) ?_ ?_
           rotate_left
           ·intro w'
            go_simp
            with_reducible rfl
           rotate_left
           ·simp only [Act.put, qa_, qb_, qc_, i64_w, i32_w]
            rfl
           refine last_ (i := 7) (N := none) #[true, true, true, true, true, true, true, true] rfl rfl (one_of HT_.out (by kernel_rfl)) (by decide) (fun K hK => ?_)
           have hs56 := bq40_ ax.out 0 rfl
           have hfs56 := qb40 ax.out 0
           have jn := a5.out
           have jd := a4.out
           have jg := bu.out
           have hR := bs.out
           refine skip_ (w1 := ?_) (by rfl) rfl ?_ ?_
           rotate_left
           ·go_simp
            rfl
           refine hK.out _ _ ?_
           clear hK K
           refine done_ (done_of HT_.out (by kernel_rfl)) ?_
           try go_wp2
           go_roundg k3
           case measure => have := HK1.out; have := HK2.out; have := HK3.out; omega
           case rel => exact ⟨(wrap64 (bv - 1)), (c5), (bU), (.slice ct bU.length cP), (by first | rfl | (simp; done) | (simp [*]; done)), H', ⟨by have := HK1.out; have := HK2.out; have := HK3.out; omega⟩, ⟨by (with_reducible repeat (first | apply qy40 | apply qz40 | apply qA40)); exact qk40 (qD40 (p := ⟨aD, 0, none⟩) (qP40 ac.out ax.out (by decide)) (fun _ hk => hk.2) (.slice ct bU.length cP)) (fun _ hk => trivial)⟩, ⟨by (with_reducible repeat (first | apply qK40 | apply qL40 | apply qO40)); exact qq40 (qp40 (p := ⟨aD, 0, none⟩) (qq40 af.out (fun k_ hk => (⟨hk, hk.1⟩ : _ ∧ k_ ≠ aD))) (fun _ hk => hk.2) (.slice ct bU.length cP)) (fun _ hk => ⟨hk.1.2, hk.1.1⟩)⟩, ⟨by (with_reducible repeat (first | apply qy40 | apply qz40 | apply qA40)); exact qk40 (qD40 (p := ⟨aD, 0, none⟩) (qP40 dg.out ax.out (by decide)) (fun _ hk => hk.2) (.slice ct bU.length cP)) (fun _ hk => trivial)⟩, ⟨by (with_reducible repeat (first | apply qe40 | apply qf40 | apply qd40)); refine blk_far ?_ a5.out _; (with_reducible repeat (first | apply qe40 | apply qf40 | apply qd40)); exact ae.out⟩, ⟨by (with_reducible repeat (first | apply qe40 | apply qf40 | apply qd40)); refine blk_far ?_ a4.out _; (with_reducible repeat (first | apply qe40 | apply qf40 | apply qd40)); exact aa.out⟩, ⟨by (with_reducible repeat (first | apply qe40 | apply qf40 | apply qd40)); refine blk_put (cs := #[aY, .bool (aW == 0)]) ?_ 0 _ rfl; (with_reducible repeat (first | apply qe40 | apply qf40 | apply qd40)); exact ax.out⟩, ⟨by repeat (first | (with_reducible first | exact HI0.out | apply qr40 | apply qs40 | apply qv40 | apply qt40 | refine qg40 ?_ an.out _ | refine qg40 ?_ al.out _ | refine qg40 ?_ a6.out _) | exact HI0.out)⟩, ⟨by repeat (first | (with_reducible first | exact HK.out | apply qx40 | apply qH40 | apply qJ40 | apply qG40 | refine qm40 ?_ aG.out _ | refine qm40 ?_ aH.out _ | refine qm40 ?_ bG.out _) | exact HK.out)⟩, ⟨by repeat (first | (with_reducible first | exact HB.out | apply qI40 | apply qw40 | apply qF40 | refine qh40 ?_ (IsS71.ge HI0.out) | refine qh40 ?_ aJ.out | refine qh40 ?_ aK.out | refine qh40 ?_ b2.out) | exact HB.out)⟩⟩
          ·rw [if_neg c51] at H
           exact absurd H (by simp)
         ·rw [if_neg c49] at H
          have ei : decide (0 < bv) = false := decide_eq_false c49
          clear c49
          by_cases c57 : ai.length < 4398046511104
          ·rw [if_pos c57] at H
           have ex := qa40 c57
           clear c57
           obtain ⟨cg, bI⟩ : ∃ y_ : List (S32), y_ = (ai ++ [(⟨aI, (aW == 0)⟩ : S32)]) := ⟨_, rfl⟩
           replace H : (spec_l20Table.l1 k3 (wrap64 (1 + bj)) (wrap64 (bl + 1)) s0_0 aX ab 0 0 cg ah) = some (r1, r2, r3, r4, r5, r6) := by first | (rw [bI]; with_reducible exact H) | (have H2_ := (Option.bind_some _ _).symm.trans H; rw [bI]; with_reducible exact H2_) | (have H2_ := (Option.bind_some _ _).symm.trans H; with_reducible exact H2_) | with_reducible exact H | (rw [bI]; exact H) | exact H
           have ep := qa40 bI
           clear bI
           have H' := qa40 H
           clear H
           have hnb58 := aT.out
           have hnc58 := ar.out
           have hnb59 := a4.out
           have hnc59 := bs.out
           have hnb60 := ap.out
           have hnc60 := al.out
           have jC := bq40_ aa.out 0 rfl
           have jG := bq40_ aa.out 1 rfl
           have h7 := bq40_ aa.out 2 rfl
           have hx := bq40_ aa.out 3 rfl
           have ja := bq40_ aa.out 4 rfl
           have jf := qb40 aa.out 0
           have hE := qb40 aa.out 1
           have h9 := qb40 aa.out 2
           have h6 := qb40 aa.out 3
           have jz := qb40 aa.out 4
           have hnb62 := bu.out
           have hnc62 := a5.out
           have hnb63 := bx.out
           have hnc63 := a6.out
           have hc := bq40_ ax.out 0 rfl
           have hW := bq40_ ax.out 1 rfl
           have g5 := qb40 ax.out 0
           have hw := qb40 ax.out 1
           obtain ⟨cJ, cE, e5⟩ := Kd.R_slice aC.out
           subst e5
           go_wp2_with (first | ((with_reducible refine gate_builtin (b := .append) (xs := #[.tmp 65, .tmp 67]) rfl ?_); at_builtin; refine Kd.S_append k32 w.heap.size rfl (.tmp 65) (.tmp 67) 24 32 (.agg #[(.slice none 0 0), (.bool false)]) 32 rfl Tryd.underlying24 info32 rfl (by decide) (by omega) av ai (⟨aI, (aW == 0)⟩ : S32) [.slice cJ aI.length cE, .bool (aW == 0)] (fun k_ => k_ ≠ aD) (fun k_ => some k_ = (.slice cJ aI.length cE : Value).ownBlock) rfl rfl ?aP (fun k_ hk_ => ((qk40 (ok' := fun k_ => ((fun k_ => k_ ≠ aD)) k_ ∧ some k_ ≠ (av : Value).ownBlock) (qP40 (Kd.R_apart' (aC.out) (Kd.S_typed af.out) (by decide)) ax.out (by decide)) (fun k_ hk => ⟨hk.2, hk.1.2⟩))).1 k_ hk_.symm) ?aF ?aO (Below.refl _ _) ?aS ?aL ?_; (case aP => exact k32_mkM _ _ _ (⟨aI, (aW == 0)⟩ : S32) (qk40 (Kd.R_tight rfl (qk40 (ok' := fun k_ => ((fun k_ => k_ ≠ aD)) k_ ∧ some k_ ≠ (av : Value).ownBlock) (qP40 (Kd.R_apart' (aC.out) (Kd.S_typed af.out) (by decide)) ax.out (by decide)) (fun k_ hk => ⟨hk.2, hk.1.2⟩))) (fun _ h_ => h_))); (case aF => exact (fun k_ hk => Kd.freshB (g := aD) (o := .cells #[.slice cJ aI.length cE, .bool (aW == 0)] 32 (0, 0)) ax.out k_ hk)); (case aO => exact (by (with_reducible repeat (first | apply qK40 | apply qL40 | apply qO40)); exact qq40 af.out (fun k_ hk => ⟨hk.2, fun e_ => hk.1 e_⟩))); (case aS => exact (keep_size (w := w) (g := g) (row := none) HK.out)); (case aL => have := ex.out; omega); intro v272 w65 ho hb hg hat; rw [← ep.out] at ho; have n0_ := qa40 (Kd.R_over' ac.out (Kd.S_typed af.out) (by decide) hg); have n1_ := qa40 (blk_grown (g := ag) (o := .cells #[.slice none 0 0, .int .i64 0, .int .i64 0, .slice none 0 0, .int .i64 0] 26 (0, 0)) ae.out hg (Kd.S_ne af.out ae.out (by decide))); have n2_ := qa40 (blk_grown (g := ad) (o := .cells #[au, .int .i64 0, .int .i64 0, av, .int .i64 ah] 26 (0, 0)) aa.out hg (Kd.S_ne af.out aa.out (by decide))); have n3_ := qa40 (blk_grown (g := aD) (o := .cells #[.slice cJ aI.length cE, .bool (aW == 0)] 32 (0, 0)) ax.out hg (Kd.S_away af.out (fun _ hk => hk.2))); have n4_ := qa40 (IsS71.grown HI0.out hg (IsS71.own_neS HI0.out af.out (by decide))); have n5_ := qa40 (below_weaken HB.out HL.out hb); have n6_ := qa40 (qi40 HK.out (KeepBut.of_grown hg g) (Kd.S_base2 af.out)); have n7_ := qa40 (ho); clear af; clear aC; replace ac := n0_; replace ae := n1_; replace aa := n2_; replace ax := n3_; replace HI0 := n4_; replace HB := n5_; replace HK := n6_; have dx := n7_; clear n0_ n1_ n2_ n3_ n4_ n5_ n6_ n7_; clear ho hb hg hat; obtain ⟨cU, da, fg⟩ := Kd.S_slice dx.out; subst fg; have je := bq40_ aa.out 0 rfl; have jk := bq40_ aa.out 1 rfl; have jA := bq40_ aa.out 2 rfl; have g4 := bq40_ aa.out 3 rfl; have jq := bq40_ aa.out 4 rfl; have jh := qb40 aa.out 0; have g8 := qb40 aa.out 1; have jr := qb40 aa.out 2; have hT := qb40 aa.out 3; have g7 := qb40 aa.out 4))
           go_roundg k3
           case measure => have := HK1.out; have := HK2.out; have := HK3.out; omega
           case rel => exact ⟨(wrap64 (bl + 1)), (aX), (cg), (.slice cU cg.length da), (by first | rfl | (simp; done) | (simp [*]; done)), H', ⟨by have := HK1.out; have := HK2.out; have := HK3.out; omega⟩, ⟨by (with_reducible repeat (first | apply qy40 | apply qz40 | apply qA40)); exact qk40 (qD40 (p := ⟨ad, 3, none⟩) (qP40 ac.out aa.out (by decide)) (fun _ hk => hk.2) (.slice cU cg.length da)) (fun _ hk => trivial)⟩, ⟨by (with_reducible repeat (first | apply qK40 | apply qL40 | apply qO40)); exact qq40 (qp40 (p := ⟨ad, 3, none⟩) (Kd.S_types dx.out aa.out (by decide)) (fun _ hk => hk.2) (.slice cU cg.length da)) (fun _ hk => trivial)⟩, ⟨by (with_reducible repeat (first | apply qe40 | apply qf40 | apply qd40)); refine blk_far ?_ ar.out _; (with_reducible repeat (first | apply qe40 | apply qf40 | apply qd40)); exact ae.out⟩, ⟨by (with_reducible repeat (first | apply qe40 | apply qf40 | apply qd40)); refine blk_put (cs := #[au, .int .i64 0, .int .i64 0, av, .int .i64 ah]) ?_ 3 _ rfl; (with_reducible repeat (first | apply qe40 | apply qf40 | apply qd40)); exact aa.out⟩, ⟨by repeat (first | (with_reducible first | exact HI0.out | apply qr40 | apply qs40 | apply qv40 | apply qt40 | refine qg40 ?_ an.out _ | refine qg40 ?_ al.out _ | refine qg40 ?_ a6.out _) | exact HI0.out)⟩, ⟨by repeat (first | (with_reducible first | exact HK.out | apply qx40 | apply qH40 | apply qJ40 | apply qG40 | refine qm40 ?_ aG.out _ | refine qm40 ?_ aH.out _ | refine qm40 ?_ bG.out _) | exact HK.out)⟩, ⟨by repeat (first | (with_reducible first | exact HB.out | apply qI40 | apply qw40 | apply qF40 | refine qh40 ?_ (IsS71.ge HI0.out) | refine qh40 ?_ aJ.out | refine qh40 ?_ aK.out | refine qh40 ?_ b2.out) | exact HB.out)⟩⟩
          ·rw [if_neg c57] at H
           exact absurd H (by simp)
      ·rw [if_neg c39] at H
       have dq : decide (bl < (wrap64 (1 + bj))) = false := decide_eq_false c39
       clear c39
       replace H := Option.bind_eq_some_iff.mp H
       obtain ⟨⟨bh, aU⟩, dT, H⟩ := H
       (try dsimp only at H)
       have A69 := qa40 dT
       clear dT
       by_cases c70 : bh = 0
       ·rw [if_pos c70] at H
        have en : (bh == 0) = true := beq_iff_eq.mpr c70
        have el : (bh != 0) = false := bne_eq_false_iff_eq.mpr c70
        clear c70
        replace H := Option.bind_eq_some_iff.mp H
        obtain ⟨⟨aw, aZ⟩, dK, H⟩ := H
        (try dsimp only at H)
        have A71 := qa40 dK
        clear dK
        replace H := Option.bind_eq_some_iff.mp H
        obtain ⟨⟨aB, a7⟩, dW, H⟩ := H
        (try dsimp only at H)
        have A72 := qa40 dW
        clear dW
        by_cases c73 : (wrap64 (aw + aB)) > (wrap64 (1 + bj))
        ·rw [if_pos c73] at H
         have ek : decide ((wrap64 (1 + bj)) < (wrap64 (aw + aB))) = true := decide_eq_true c73
         clear c73
         replace H := Option.bind_eq_some_iff.mp H
         obtain ⟨t280, d7, H⟩ := H
         (try dsimp only at H)
         have A74 := qa40 d7
         clear d7
         by_cases c75 : t280 = true
         ·subst c75
          have H1 : (some (ab, aw, 0, ai, ah, a7)) = some (r1, r2, r3, r4, r5, r6) := by rw [if_pos rfl] at H; exact H
          clear H
          have H := H1
          clear H1
          simp only [Option.some.injEq, Prod.mk.injEq] at H
          obtain ⟨rfl, rfl, rfl, rfl, rfl, rfl⟩ := H
          go_wp2_with (first | ((with_reducible refine gate_callee (f := 34) rfl ?_); refine goesL_ (some 71) rfl rfl Tryd.func34 (by kernel_rfl) rfl #[.pointer (some ⟨g, 0, none⟩), .int .i64 2] rfl (by (try simp only [ql40, qn40, qo40]) <;> rfl) ?_; (with_reducible refine (spec_l20Rd_pick.calls k2 g s0_0 aA 2 bh aU w0 _ ?side1 ?side2 A69.out).mono ?_); (case side1 => exact HI0.out); (case side2 => exact HB.out); rintro e w76 ⟨rfl, hi, hb, hk⟩; refine ⟨_, rfl, ?_⟩; have n0_ := qa40 (qk40 (qB40 (qu40 (show IsS71 w0 _ g s0_0 aA from HI0.out) ac.out (by decide)) hk (fun _ h => h.2)) (fun _ h => h.1)); have n1_ := qa40 (qq40 (Kd.S_keep (qQ40 (show IsS71 w0 _ g s0_0 aA from HI0.out) af.out (by decide)) hk (fun _ h => h.2)) (fun _ h => h.1)); have n2_ := qa40 (qj40 hk (g' := ag) (o := .cells #[.slice none 0 0, .int .i64 0, .int .i64 0, .slice none 0 0, .int .i64 0] 26 (0, 0)) ae.out aq.out (by simp)); have n3_ := qa40 (qj40 hk (g' := ad) (o := .cells #[au, .int .i64 0, .int .i64 0, av, .int .i64 ah] 26 (0, 0)) aa.out ap.out (by simp)); have n4_ := qa40 (qi40 HK.out hk (.inl rfl)); have n5_ := qa40 (hb); have n6_ := qa40 (hi); replace ac := n0_; replace af := n1_; replace ae := n2_; replace aa := n3_; replace HK := n4_; replace HB := n5_; replace HI0 := n6_; clear n0_ n1_ n2_ n3_ n4_ n5_ n6_; (try clear hb hk hi)) | ((with_reducible refine gate_callee (f := 34) rfl ?_); refine goesL_ (some 74) rfl rfl Tryd.func34 (by kernel_rfl) rfl #[.pointer (some ⟨g, 0, none⟩), .int .i64 2] rfl (by (try simp only [ql40, qn40, qo40]) <;> rfl) ?_; (with_reducible refine (spec_l20Rd_pick.calls k2 g s0_0 aU 2 aw aZ w0 _ ?side1 ?side2 A71.out).mono ?_); (case side1 => exact HI0.out); (case side2 => exact HB.out); rintro e w77 ⟨rfl, hi, hb, hk⟩; refine ⟨_, rfl, ?_⟩; have n0_ := qa40 (qk40 (qB40 (qu40 (show IsS71 w0 _ g s0_0 aU from HI0.out) ac.out (by decide)) hk (fun _ h => h.2)) (fun _ h => h.1)); have n1_ := qa40 (qq40 (Kd.S_keep (qQ40 (show IsS71 w0 _ g s0_0 aU from HI0.out) af.out (by decide)) hk (fun _ h => h.2)) (fun _ h => h.1)); have n2_ := qa40 (qj40 hk (g' := ag) (o := .cells #[.slice none 0 0, .int .i64 0, .int .i64 0, .slice none 0 0, .int .i64 0] 26 (0, 0)) ae.out aq.out (by simp)); have n3_ := qa40 (qj40 hk (g' := ad) (o := .cells #[au, .int .i64 0, .int .i64 0, av, .int .i64 ah] 26 (0, 0)) aa.out ap.out (by simp)); have n4_ := qa40 (qi40 HK.out hk (.inl rfl)); have n5_ := qa40 (hb); have n6_ := qa40 (hi); replace ac := n0_; replace af := n1_; replace ae := n2_; replace aa := n3_; replace HK := n4_; replace HB := n5_; replace HI0 := n6_; clear n0_ n1_ n2_ n3_ n4_ n5_ n6_; (try clear hb hk hi); have hnb78 := aT.out; have hnc78 := ar.out; have hnb79 := ap.out; have hnc79 := al.out; have hJ := bq40_ aa.out 0 rfl; have h3 := bq40_ aa.out 1 rfl; have jt := bq40_ aa.out 2 rfl; have jo := bq40_ aa.out 3 rfl; have hD := bq40_ aa.out 4 rfl; have jD := qb40 aa.out 0; have ju := qb40 aa.out 1; have jp := qb40 aa.out 2; have hz := qb40 aa.out 3; have h2 := qb40 aa.out 4) | ((with_reducible refine gate_callee (f := 34) rfl ?_); refine goesL_ (some 77) rfl rfl Tryd.func34 (by kernel_rfl) rfl #[.pointer (some ⟨g, 0, none⟩), .int .i64 2] rfl (by (try simp only [ql40, qn40, qo40]) <;> rfl) ?_; (with_reducible refine (spec_l20Rd_pick.calls k2 g s0_0 aZ 2 aB a7 w0 _ ?side1 ?side2 A72.out).mono ?_); (case side1 => repeat (first | (with_reducible first | exact HI0.out | apply qr40 | apply qs40 | apply qv40 | apply qt40 | refine qg40 ?_ an.out _ | refine qg40 ?_ al.out _) | exact HI0.out)); (case side2 => repeat (first | (with_reducible first | exact HB.out | apply qI40 | apply qw40 | apply qF40 | refine qh40 ?_ (IsS71.ge HI0.out) | refine qh40 ?_ aJ.out | refine qh40 ?_ aK.out) | exact HB.out)); rintro e w81 ⟨rfl, hi, hb, hk⟩; refine ⟨_, rfl, ?_⟩; have n0_ := qa40 (qk40 (qB40 (qu40 (show IsS71 w0 _ g s0_0 aZ from by repeat (first | (with_reducible first | exact HI0.out | apply qr40 | apply qs40 | apply qv40 | apply qt40 | refine qg40 ?_ an.out _ | refine qg40 ?_ al.out _) | exact HI0.out)) (by (with_reducible repeat (first | apply qy40 | apply qz40 | apply qA40)); exact (qk40 (qD40 (p := ⟨ad, 1, none⟩) (qP40 ac.out aa.out (by decide)) (fun _ hk => hk.2) (.int .i64 aw)) (fun _ h_ => h_.1))) (by decide)) hk (fun _ h => h.2)) (fun _ h => h.1)); have n1_ := qa40 (qq40 (Kd.S_keep (qQ40 (show IsS71 w0 _ g s0_0 aZ from by repeat (first | (with_reducible first | exact HI0.out | apply qr40 | apply qs40 | apply qv40 | apply qt40 | refine qg40 ?_ an.out _ | refine qg40 ?_ al.out _) | exact HI0.out)) (by (with_reducible repeat (first | apply qK40 | apply qL40 | apply qO40)); exact (qq40 (qp40 (p := ⟨ad, 1, none⟩) (Kd.S_types af.out aa.out (by decide)) (fun _ hk => hk.2) (.int .i64 aw)) (fun _ h_ => h_.1))) (by decide)) hk (fun _ h => h.2)) (fun _ h => h.1)); have n2_ := qa40 (qj40 hk (g' := ag) (o := .cells #[.slice none 0 0, .int .i64 0, .int .i64 0, .slice none 0 0, .int .i64 0] 26 (0, 0)) (by (with_reducible repeat (first | apply qe40 | apply qf40 | apply qd40)); refine blk_far ?_ ar.out _; (with_reducible repeat (first | apply qe40 | apply qf40 | apply qd40)); exact ae.out) aq.out (by simp)); have n3_ := qa40 (qj40 hk (g' := ad) (o := .cells #[au, .int .i64 aw, .int .i64 0, av, .int .i64 ah] 26 (0, 0)) (by (with_reducible repeat (first | apply qe40 | apply qf40 | apply qd40)); refine blk_put (cs := #[au, .int .i64 0, .int .i64 0, av, .int .i64 ah]) ?_ 1 _ rfl; (with_reducible repeat (first | apply qe40 | apply qf40 | apply qd40)); exact aa.out) ap.out (by simp)); have n4_ := qa40 (qi40 (by repeat (first | (with_reducible first | exact HK.out | apply qx40 | apply qH40 | apply qJ40 | apply qG40 | refine qm40 ?_ aG.out _ | refine qm40 ?_ aH.out _) | exact HK.out)) hk (.inl rfl)); have n5_ := qa40 (hb); have n6_ := qa40 (hi); replace ac := n0_; replace af := n1_; replace ae := n2_; replace aa := n3_; replace HK := n4_; replace HB := n5_; replace HI0 := n6_; clear n0_ n1_ n2_ n3_ n4_ n5_ n6_; (try clear hb hk hi); have hA := bq40_ aa.out 0 rfl; have hs := bq40_ aa.out 1 rfl; have jv := bq40_ aa.out 2 rfl; have ht := bq40_ aa.out 3 rfl; have hM := bq40_ aa.out 4 rfl; have jF := qb40 aa.out 0; have hy := qb40 aa.out 1; have hU := qb40 aa.out 2; have hF := qb40 aa.out 3; have hC := qb40 aa.out 4; obtain ⟨bi, bb, fi⟩ := Kd.R_slice ac.out; subst fi; obtain ⟨bt, bp, eP⟩ := Kd.S_slice af.out; subst eP) | ((with_reducible refine gate_callee (f := 9) rfl ?_); refine goesL_ (some 88) rfl rfl Tryd.func9 (by kernel_rfl) rfl #[.agg #[.slice bi ab.length bb, .int .i64 aw, .int .i64 0, .slice bt ai.length bp, .int .i64 ah]] rfl (by (try simp only [ql40, qn40, qo40]); first | done | rfl | (simp only [qM40, qN40]; rfl)) ?_; (with_reducible refine (spec_TblOk.calls k2 _ _ ab aw 0 _ _ ai ah true _ ?side1 ?side2 ?side3 ?side4 A74.out).mono ?_); (case side1 => refine (Kd.R_reads' (e := 29) (base := w.heap.size) (ok := fun k_ => True) (n := ab.length) (c := bb) ?_).2.2; exact (by (with_reducible repeat (first | apply qy40 | apply qz40 | apply qA40)); exact (qk40 (qD40 (p := ⟨ad, 2, none⟩) (qD40 (p := ⟨ad, 2, none⟩) (qP40 ac.out aa.out (by decide)) (fun _ hk => hk.2) (.int .i64 aB)) (fun _ hk => hk.2) (.int .i64 0)) (fun _ h_ => h_.1)))); (case side2 => exact (Kd.R_reads' ac.out).2.1); (case side3 => refine (Kd.S_reads' (e := 32) (base := w.heap.size) (ok := fun k_ => True) (n := ai.length) (c := bp) ?_).2.2; exact (by (with_reducible repeat (first | apply qK40 | apply qL40 | apply qO40)); exact (qq40 (qp40 (p := ⟨ad, 2, none⟩) (qp40 (p := ⟨ad, 2, none⟩) (Kd.S_types af.out aa.out (by decide)) (fun _ hk => hk.2) (.int .i64 aB)) (fun _ hk => hk.2) (.int .i64 0)) (fun _ h_ => h_.1)))); (case side4 => exact (Kd.S_reads' af.out).2.1); rintro e w85 ⟨rfl, hb⟩; refine ⟨_, rfl, ?_⟩; have n0_ := qa40 (Kd.R_below (by (with_reducible repeat (first | apply qy40 | apply qz40 | apply qA40)); exact (qk40 (qD40 (p := ⟨ad, 2, none⟩) (qD40 (p := ⟨ad, 2, none⟩) (qP40 ac.out aa.out (by decide)) (fun _ hk => hk.2) (.int .i64 aB)) (fun _ hk => hk.2) (.int .i64 0)) (fun _ h_ => h_.1))) hb); have n1_ := qa40 (Kd.S_below (by (with_reducible repeat (first | apply qK40 | apply qL40 | apply qO40)); exact (qq40 (qp40 (p := ⟨ad, 2, none⟩) (qp40 (p := ⟨ad, 2, none⟩) (Kd.S_types af.out aa.out (by decide)) (fun _ hk => hk.2) (.int .i64 aB)) (fun _ hk => hk.2) (.int .i64 0)) (fun _ h_ => h_.1))) hb); have n2_ := qa40 (qC40 (g := ag) (o := .cells #[.slice none 0 0, .int .i64 0, .int .i64 0, .slice none 0 0, .int .i64 0] 26 (0, 0)) (by (with_reducible repeat (first | apply qe40 | apply qf40 | apply qd40)); refine blk_far ?_ ar.out _; refine blk_far ?_ ar.out _; (with_reducible repeat (first | apply qe40 | apply qf40 | apply qd40)); exact ae.out) hb); have n3_ := qa40 (qC40 (g := ad) (o := .cells #[.slice bi ab.length bb, .int .i64 aw, .int .i64 0, .slice bt ai.length bp, .int .i64 ah] 26 (0, 0)) (by (with_reducible repeat (first | apply qe40 | apply qf40 | apply qd40)); refine blk_put (cs := #[.slice bi ab.length bb, .int .i64 aw, .int .i64 aB, .slice bt ai.length bp, .int .i64 ah]) ?_ 2 _ rfl; refine blk_put (cs := #[.slice bi ab.length bb, .int .i64 aw, .int .i64 0, .slice bt ai.length bp, .int .i64 ah]) ?_ 2 _ rfl; (with_reducible repeat (first | apply qe40 | apply qf40 | apply qd40)); exact aa.out) hb); have n4_ := qa40 (IsS71.below (show IsS71 w0 ((w81.setCell ⟨ad, 2, none⟩ (.int .i64 aB)).setCell ⟨ad, 2, none⟩ (.int .i64 0)) g s0_0 a7 from by repeat (first | (with_reducible first | exact HI0.out | apply qr40 | apply qs40 | apply qv40 | apply qt40 | refine qg40 ?_ an.out _ | refine qg40 ?_ al.out _) | exact HI0.out)) hb); have n5_ := qa40 (qi40 (by repeat (first | (with_reducible first | exact HK.out | apply qx40 | apply qH40 | apply qJ40 | apply qG40 | refine qm40 ?_ aG.out _ | refine qm40 ?_ aH.out _) | exact HK.out)) (qE40 hb g none) (.inl rfl)); have n6_ := qa40 (below_step (by repeat (first | (with_reducible first | exact HB.out | apply qI40 | apply qw40 | apply qF40 | refine qh40 ?_ (IsS71.ge HI0.out) | refine qh40 ?_ aJ.out | refine qh40 ?_ aK.out) | exact HB.out)) hb); replace ac := n0_; replace af := n1_; replace ae := n2_; replace aa := n3_; replace HI0 := n4_; replace HK := n5_; replace HB := n6_; clear n0_ n1_ n2_ n3_ n4_ n5_ n6_; (try clear hb hk hi); have jb := bq40_ aa.out 0 rfl; have jx := bq40_ aa.out 1 rfl; have jw := bq40_ aa.out 2 rfl; have jB := bq40_ aa.out 3 rfl; have hv := bq40_ aa.out 4 rfl; have hq := qb40 aa.out 0; have jE := qb40 aa.out 1; have jm := qb40 aa.out 2; have he := qb40 aa.out 3; have hf := qb40 aa.out 4; have hnb87 := aq.out; have hnc87 := an.out; have ha := bq40_ ae.out 0 rfl; have jl := bq40_ ae.out 1 rfl; have g9 := bq40_ ae.out 2 rfl; have hQ := bq40_ ae.out 3 rfl; have jy := bq40_ ae.out 4 rfl; have h5 := qb40 ae.out 0; have g6 := qb40 ae.out 1; have hm := qb40 ae.out 2; have h4 := qb40 ae.out 3; have h0 := qb40 ae.out 4))
          refine bodyPost_ret (results_cell_row rfl _ _ ag 26 #[.slice bi ab.length bb, .int .i64 aw, .int .i64 0, .slice bt ai.length bp, .int .i64 ah] (0, 0) _ rfl (by (with_reducible repeat (first | apply qe40 | apply qf40 | apply qd40)); refine blk_put (cs := #[.slice bi ab.length bb, .int .i64 aw, .int .i64 0, .slice bt ai.length bp, .int .i64 0]) ?_ 4 _ rfl; refine blk_put (cs := #[.slice bi ab.length bb, .int .i64 aw, .int .i64 0, .slice none 0 0, .int .i64 0]) ?_ 3 _ rfl; refine blk_put (cs := #[.slice bi ab.length bb, .int .i64 aw, .int .i64 0, .slice none 0 0, .int .i64 0]) ?_ 2 _ rfl; refine blk_put (cs := #[.slice bi ab.length bb, .int .i64 0, .int .i64 0, .slice none 0 0, .int .i64 0]) ?_ 1 _ rfl; refine blk_put (cs := #[.slice none 0 0, .int .i64 0, .int .i64 0, .slice none 0 0, .int .i64 0]) ?_ 0 _ rfl; (with_reducible repeat (first | apply qe40 | apply qf40 | apply qd40)); exact ae.out) Tryd.underlying26 rfl (by kernel_rfl)) rfl ?_
          exact ⟨_, _, by first | rfl | (simp [errW_none, errW_some] <;> rfl) | (simp [*, errW_none, errW_some] <;> rfl), by (with_reducible repeat (first | apply qy40 | apply qz40 | apply qA40)); exact qk40 (qD40 (p := ⟨ag, 4, none⟩) (qD40 (p := ⟨ag, 3, none⟩) (qD40 (p := ⟨ag, 2, none⟩) (qD40 (p := ⟨ag, 1, none⟩) (qD40 (p := ⟨ag, 0, none⟩) (qP40 ac.out ae.out (by decide)) (fun _ hk => hk.2) (.slice bi ab.length bb)) (fun _ hk => hk.2) (.int .i64 aw)) (fun _ hk => hk.2) (.int .i64 0)) (fun _ hk => hk.2) (.slice bt ai.length bp)) (fun _ hk => hk.2) (.int .i64 ah)) (fun _ hk => trivial), by (with_reducible repeat (first | apply qK40 | apply qL40 | apply qO40)); exact qq40 (qp40 (p := ⟨ag, 4, none⟩) (qp40 (p := ⟨ag, 3, none⟩) (qp40 (p := ⟨ag, 2, none⟩) (qp40 (p := ⟨ag, 1, none⟩) (qp40 (p := ⟨ag, 0, none⟩) (Kd.S_types af.out ae.out (by decide)) (fun _ hk => hk.2) (.slice bi ab.length bb)) (fun _ hk => hk.2) (.int .i64 aw)) (fun _ hk => hk.2) (.int .i64 0)) (fun _ hk => hk.2) (.slice bt ai.length bp)) (fun _ hk => hk.2) (.int .i64 ah)) (fun _ hk => trivial), by repeat (first | (with_reducible first | exact HI0.out | apply qr40 | apply qs40 | apply qv40 | apply qt40 | refine qg40 ?_ an.out _ | refine qg40 ?_ al.out _) | exact HI0.out), by repeat (first | (with_reducible first | exact HB.out | apply qI40 | apply qw40 | apply qF40 | refine qh40 ?_ (IsS71.ge HI0.out) | refine qh40 ?_ aJ.out | refine qh40 ?_ aK.out) | exact HB.out), by repeat (first | (with_reducible first | exact HK.out | apply qx40 | apply qH40 | apply qJ40 | apply qG40 | refine qm40 ?_ aG.out _ | refine qm40 ?_ aH.out _) | exact HK.out)⟩
         ·replace c75 := Bool.eq_false_iff.mpr c75
          subst c75
          have H1 : (some (([] : List (S29)), 0, 0, (([(⟨([] : List (S37)), false⟩ : S32)] : List (S32))), 0, a7)) = some (r1, r2, r3, r4, r5, r6) := by rw [if_neg (show ¬ (false = true) by decide)] at H; exact H
          clear H
          have H := H1
          clear H1
          obtain ⟨cv, bQ⟩ : ∃ y_ : List (S32), y_ = (([(⟨([] : List (S37)), false⟩ : S32)] : List (S32))) := ⟨_, rfl⟩
          replace H : (some (([] : List (S29)), 0, 0, cv, 0, a7)) = some (r1, r2, r3, r4, r5, r6) := by first | (rw [bQ]; with_reducible exact H) | (have H2_ := (Option.bind_some _ _).symm.trans H; rw [bQ]; with_reducible exact H2_) | (have H2_ := (Option.bind_some _ _).symm.trans H; with_reducible exact H2_) | with_reducible exact H | (rw [bQ]; exact H) | exact H
          have dk := qa40 bQ
          clear bQ
          simp only [Option.some.injEq, Prod.mk.injEq] at H
          obtain ⟨rfl, rfl, rfl, rfl, rfl, rfl⟩ := H
          go_wp2_with (first | ((with_reducible refine gate_callee (f := 34) rfl ?_); refine goesL_ (some 71) rfl rfl Tryd.func34 (by kernel_rfl) rfl #[.pointer (some ⟨g, 0, none⟩), .int .i64 2] rfl (by (try simp only [ql40, qn40, qo40]) <;> rfl) ?_; (with_reducible refine (spec_l20Rd_pick.calls k2 g s0_0 aA 2 bh aU w0 _ ?side1 ?side2 A69.out).mono ?_); (case side1 => exact HI0.out); (case side2 => exact HB.out); rintro e w89 ⟨rfl, hi, hb, hk⟩; refine ⟨_, rfl, ?_⟩; have n0_ := qa40 (qk40 (qB40 (qu40 (show IsS71 w0 _ g s0_0 aA from HI0.out) ac.out (by decide)) hk (fun _ h => h.2)) (fun _ h => h.1)); have n1_ := qa40 (qq40 (Kd.S_keep (qQ40 (show IsS71 w0 _ g s0_0 aA from HI0.out) af.out (by decide)) hk (fun _ h => h.2)) (fun _ h => h.1)); have n2_ := qa40 (qj40 hk (g' := ag) (o := .cells #[.slice none 0 0, .int .i64 0, .int .i64 0, .slice none 0 0, .int .i64 0] 26 (0, 0)) ae.out aq.out (by simp)); have n3_ := qa40 (qj40 hk (g' := ad) (o := .cells #[au, .int .i64 0, .int .i64 0, av, .int .i64 ah] 26 (0, 0)) aa.out ap.out (by simp)); have n4_ := qa40 (qi40 HK.out hk (.inl rfl)); have n5_ := qa40 (hb); have n6_ := qa40 (hi); replace ac := n0_; replace af := n1_; replace ae := n2_; replace aa := n3_; replace HK := n4_; replace HB := n5_; replace HI0 := n6_; clear n0_ n1_ n2_ n3_ n4_ n5_ n6_; (try clear hb hk hi)) | ((with_reducible refine gate_callee (f := 34) rfl ?_); refine goesL_ (some 74) rfl rfl Tryd.func34 (by kernel_rfl) rfl #[.pointer (some ⟨g, 0, none⟩), .int .i64 2] rfl (by (try simp only [ql40, qn40, qo40]) <;> rfl) ?_; (with_reducible refine (spec_l20Rd_pick.calls k2 g s0_0 aU 2 aw aZ w0 _ ?side1 ?side2 A71.out).mono ?_); (case side1 => exact HI0.out); (case side2 => exact HB.out); rintro e w90 ⟨rfl, hi, hb, hk⟩; refine ⟨_, rfl, ?_⟩; have n0_ := qa40 (qk40 (qB40 (qu40 (show IsS71 w0 _ g s0_0 aU from HI0.out) ac.out (by decide)) hk (fun _ h => h.2)) (fun _ h => h.1)); have n1_ := qa40 (qq40 (Kd.S_keep (qQ40 (show IsS71 w0 _ g s0_0 aU from HI0.out) af.out (by decide)) hk (fun _ h => h.2)) (fun _ h => h.1)); have n2_ := qa40 (qj40 hk (g' := ag) (o := .cells #[.slice none 0 0, .int .i64 0, .int .i64 0, .slice none 0 0, .int .i64 0] 26 (0, 0)) ae.out aq.out (by simp)); have n3_ := qa40 (qj40 hk (g' := ad) (o := .cells #[au, .int .i64 0, .int .i64 0, av, .int .i64 ah] 26 (0, 0)) aa.out ap.out (by simp)); have n4_ := qa40 (qi40 HK.out hk (.inl rfl)); have n5_ := qa40 (hb); have n6_ := qa40 (hi); replace ac := n0_; replace af := n1_; replace ae := n2_; replace aa := n3_; replace HK := n4_; replace HB := n5_; replace HI0 := n6_; clear n0_ n1_ n2_ n3_ n4_ n5_ n6_; (try clear hb hk hi); have hnb91 := aT.out; have hnc91 := ar.out; have hnb92 := ap.out; have hnc92 := al.out; have hG := bq40_ aa.out 0 rfl; have hP := bq40_ aa.out 1 rfl; have hl := bq40_ aa.out 2 rfl; have jj := bq40_ aa.out 3 rfl; have hL := bq40_ aa.out 4 rfl; have hY := qb40 aa.out 0; have hS := qb40 aa.out 1; have hu := qb40 aa.out 2; have ji := qb40 aa.out 3; have hH := qb40 aa.out 4) | ((with_reducible refine gate_callee (f := 34) rfl ?_); refine goesL_ (some 77) rfl rfl Tryd.func34 (by kernel_rfl) rfl #[.pointer (some ⟨g, 0, none⟩), .int .i64 2] rfl (by (try simp only [ql40, qn40, qo40]) <;> rfl) ?_; (with_reducible refine (spec_l20Rd_pick.calls k2 g s0_0 aZ 2 aB a7 w0 _ ?side1 ?side2 A72.out).mono ?_); (case side1 => repeat (first | (with_reducible first | exact HI0.out | apply qr40 | apply qs40 | apply qv40 | apply qt40 | refine qg40 ?_ an.out _ | refine qg40 ?_ al.out _) | exact HI0.out)); (case side2 => repeat (first | (with_reducible first | exact HB.out | apply qI40 | apply qw40 | apply qF40 | refine qh40 ?_ (IsS71.ge HI0.out) | refine qh40 ?_ aJ.out | refine qh40 ?_ aK.out) | exact HB.out)); rintro e w94 ⟨rfl, hi, hb, hk⟩; refine ⟨_, rfl, ?_⟩; have n0_ := qa40 (qk40 (qB40 (qu40 (show IsS71 w0 _ g s0_0 aZ from by repeat (first | (with_reducible first | exact HI0.out | apply qr40 | apply qs40 | apply qv40 | apply qt40 | refine qg40 ?_ an.out _ | refine qg40 ?_ al.out _) | exact HI0.out)) (by (with_reducible repeat (first | apply qy40 | apply qz40 | apply qA40)); exact (qk40 (qD40 (p := ⟨ad, 1, none⟩) (qP40 ac.out aa.out (by decide)) (fun _ hk => hk.2) (.int .i64 aw)) (fun _ h_ => h_.1))) (by decide)) hk (fun _ h => h.2)) (fun _ h => h.1)); have n1_ := qa40 (qq40 (Kd.S_keep (qQ40 (show IsS71 w0 _ g s0_0 aZ from by repeat (first | (with_reducible first | exact HI0.out | apply qr40 | apply qs40 | apply qv40 | apply qt40 | refine qg40 ?_ an.out _ | refine qg40 ?_ al.out _) | exact HI0.out)) (by (with_reducible repeat (first | apply qK40 | apply qL40 | apply qO40)); exact (qq40 (qp40 (p := ⟨ad, 1, none⟩) (Kd.S_types af.out aa.out (by decide)) (fun _ hk => hk.2) (.int .i64 aw)) (fun _ h_ => h_.1))) (by decide)) hk (fun _ h => h.2)) (fun _ h => h.1)); have n2_ := qa40 (qj40 hk (g' := ag) (o := .cells #[.slice none 0 0, .int .i64 0, .int .i64 0, .slice none 0 0, .int .i64 0] 26 (0, 0)) (by (with_reducible repeat (first | apply qe40 | apply qf40 | apply qd40)); refine blk_far ?_ ar.out _; (with_reducible repeat (first | apply qe40 | apply qf40 | apply qd40)); exact ae.out) aq.out (by simp)); have n3_ := qa40 (qj40 hk (g' := ad) (o := .cells #[au, .int .i64 aw, .int .i64 0, av, .int .i64 ah] 26 (0, 0)) (by (with_reducible repeat (first | apply qe40 | apply qf40 | apply qd40)); refine blk_put (cs := #[au, .int .i64 0, .int .i64 0, av, .int .i64 ah]) ?_ 1 _ rfl; (with_reducible repeat (first | apply qe40 | apply qf40 | apply qd40)); exact aa.out) ap.out (by simp)); have n4_ := qa40 (qi40 (by repeat (first | (with_reducible first | exact HK.out | apply qx40 | apply qH40 | apply qJ40 | apply qG40 | refine qm40 ?_ aG.out _ | refine qm40 ?_ aH.out _) | exact HK.out)) hk (.inl rfl)); have n5_ := qa40 (hb); have n6_ := qa40 (hi); replace ac := n0_; replace af := n1_; replace ae := n2_; replace aa := n3_; replace HK := n4_; replace HB := n5_; replace HI0 := n6_; clear n0_ n1_ n2_ n3_ n4_ n5_ n6_; (try clear hb hk hi); have hV := bq40_ aa.out 0 rfl; have hj := bq40_ aa.out 1 rfl; have jc := bq40_ aa.out 2 rfl; have hX := bq40_ aa.out 3 rfl; have hO := bq40_ aa.out 4 rfl; have hN := qb40 aa.out 0; have jH := qb40 aa.out 1; have h1 := qb40 aa.out 2; have hh := qb40 aa.out 3; have hZ := qb40 aa.out 4; obtain ⟨cj, bY, gr⟩ := Kd.R_slice ac.out; subst gr; obtain ⟨cl, bX, e0⟩ := Kd.S_slice af.out; subst e0) | ((with_reducible refine gate_callee (f := 9) rfl ?_); refine goesL_ (some 88) rfl rfl Tryd.func9 (by kernel_rfl) rfl #[.agg #[.slice cj ab.length bY, .int .i64 aw, .int .i64 0, .slice cl ai.length bX, .int .i64 ah]] rfl (by (try simp only [ql40, qn40, qo40]); first | done | rfl | (simp only [qM40, qN40]; rfl)) ?_; (with_reducible refine (spec_TblOk.calls k2 _ _ ab aw 0 _ _ ai ah false _ ?side1 ?side2 ?side3 ?side4 A74.out).mono ?_); (case side1 => refine (Kd.R_reads' (e := 29) (base := w.heap.size) (ok := fun k_ => True) (n := ab.length) (c := bY) ?_).2.2; exact (by (with_reducible repeat (first | apply qy40 | apply qz40 | apply qA40)); exact (qk40 (qD40 (p := ⟨ad, 2, none⟩) (qD40 (p := ⟨ad, 2, none⟩) (qP40 ac.out aa.out (by decide)) (fun _ hk => hk.2) (.int .i64 aB)) (fun _ hk => hk.2) (.int .i64 0)) (fun _ h_ => h_.1)))); (case side2 => exact (Kd.R_reads' ac.out).2.1); (case side3 => refine (Kd.S_reads' (e := 32) (base := w.heap.size) (ok := fun k_ => True) (n := ai.length) (c := bX) ?_).2.2; exact (by (with_reducible repeat (first | apply qK40 | apply qL40 | apply qO40)); exact (qq40 (qp40 (p := ⟨ad, 2, none⟩) (qp40 (p := ⟨ad, 2, none⟩) (Kd.S_types af.out aa.out (by decide)) (fun _ hk => hk.2) (.int .i64 aB)) (fun _ hk => hk.2) (.int .i64 0)) (fun _ h_ => h_.1)))); (case side4 => exact (Kd.S_reads' af.out).2.1); rintro e w98 ⟨rfl, hb⟩; refine ⟨_, rfl, ?_⟩; have n0_ := qa40 (Kd.R_below (by (with_reducible repeat (first | apply qy40 | apply qz40 | apply qA40)); exact (qk40 (qD40 (p := ⟨ad, 2, none⟩) (qD40 (p := ⟨ad, 2, none⟩) (qP40 ac.out aa.out (by decide)) (fun _ hk => hk.2) (.int .i64 aB)) (fun _ hk => hk.2) (.int .i64 0)) (fun _ h_ => h_.1))) hb); have n1_ := qa40 (Kd.S_below (by (with_reducible repeat (first | apply qK40 | apply qL40 | apply qO40)); exact (qq40 (qp40 (p := ⟨ad, 2, none⟩) (qp40 (p := ⟨ad, 2, none⟩) (Kd.S_types af.out aa.out (by decide)) (fun _ hk => hk.2) (.int .i64 aB)) (fun _ hk => hk.2) (.int .i64 0)) (fun _ h_ => h_.1))) hb); have n2_ := qa40 (qC40 (g := ag) (o := .cells #[.slice none 0 0, .int .i64 0, .int .i64 0, .slice none 0 0, .int .i64 0] 26 (0, 0)) (by (with_reducible repeat (first | apply qe40 | apply qf40 | apply qd40)); refine blk_far ?_ ar.out _; refine blk_far ?_ ar.out _; (with_reducible repeat (first | apply qe40 | apply qf40 | apply qd40)); exact ae.out) hb); have n3_ := qa40 (qC40 (g := ad) (o := .cells #[.slice cj ab.length bY, .int .i64 aw, .int .i64 0, .slice cl ai.length bX, .int .i64 ah] 26 (0, 0)) (by (with_reducible repeat (first | apply qe40 | apply qf40 | apply qd40)); refine blk_put (cs := #[.slice cj ab.length bY, .int .i64 aw, .int .i64 aB, .slice cl ai.length bX, .int .i64 ah]) ?_ 2 _ rfl; refine blk_put (cs := #[.slice cj ab.length bY, .int .i64 aw, .int .i64 0, .slice cl ai.length bX, .int .i64 ah]) ?_ 2 _ rfl; (with_reducible repeat (first | apply qe40 | apply qf40 | apply qd40)); exact aa.out) hb); have n4_ := qa40 (IsS71.below (show IsS71 w0 ((w94.setCell ⟨ad, 2, none⟩ (.int .i64 aB)).setCell ⟨ad, 2, none⟩ (.int .i64 0)) g s0_0 a7 from by repeat (first | (with_reducible first | exact HI0.out | apply qr40 | apply qs40 | apply qv40 | apply qt40 | refine qg40 ?_ an.out _ | refine qg40 ?_ al.out _) | exact HI0.out)) hb); have n5_ := qa40 (qi40 (by repeat (first | (with_reducible first | exact HK.out | apply qx40 | apply qH40 | apply qJ40 | apply qG40 | refine qm40 ?_ aG.out _ | refine qm40 ?_ aH.out _) | exact HK.out)) (qE40 hb g none) (.inl rfl)); have n6_ := qa40 (below_step (by repeat (first | (with_reducible first | exact HB.out | apply qI40 | apply qw40 | apply qF40 | refine qh40 ?_ (IsS71.ge HI0.out) | refine qh40 ?_ aJ.out | refine qh40 ?_ aK.out) | exact HB.out)) hb); replace ac := n0_; replace af := n1_; replace ae := n2_; replace aa := n3_; replace HI0 := n4_; replace HK := n5_; replace HB := n6_; clear n0_ n1_ n2_ n3_ n4_ n5_ n6_; (try clear hb hk hi)) | ((with_reducible refine gate_dst (N := 91) rfl ?_); refine Kd.S_lit k32 _ 32 ?hg (N := 91) ?hd (xs := ([(⟨([] : List (S37)), false⟩ : S32)] : List (S32))) (inner := [.slice none 0 0, .bool false]) (ok := fun _ => True) (okp := fun _ => True) ?hr ?hp (fun _ hk => hk) trivial (Below.refl _ _) (Nat.le_refl _) (by simp) ?_; (case hd => rfl); (case hg => rfl); (case hr => go_simp <;> rfl); (case hp => exact (Reps.c2 (show Kd.M k32 _ _ _ (⟨([] : List (S37)), false⟩ : S32) [.slice none 0 0, .bool false] from (k32_mkM _ _ _ (⟨([] : List (S37)), false⟩ : S32) (Kd.R_nil _ _ _ _ _))) (Reps.none _ _))); intro v282 w99 bA hb hg_ hnew_; clear hg_ hnew_; (first | rw [← dk.out] at bA | (simp only [Int.reduceToNat] at bA; rw [← dk.out] at bA)); have n0_ := qa40 (Kd.R_below ac.out hb); have n1_ := qa40 (Kd.S_elder' af.out (Kd.S_base bA) hb); have n2_ := qa40 (Kd.S_lower (Kd.S_new' bA (Kd.S_lt af.out)) (keep_size (w := w) (g := g) (row := none) HK.out)); have n3_ := qa40 (qC40 (g := ag) (o := .cells #[.slice none 0 0, .int .i64 0, .int .i64 0, .slice none 0 0, .int .i64 0] 26 (0, 0)) ae.out hb); have n4_ := qa40 (qC40 (g := ad) (o := .cells #[.slice cj ab.length bY, .int .i64 aw, .int .i64 0, .slice cl ai.length bX, .int .i64 ah] 26 (0, 0)) aa.out hb); have n5_ := qa40 (IsS71.below HI0.out hb); have n6_ := qa40 (qi40 HK.out (qE40 hb g none) (.inl rfl)); have n7_ := qa40 (below_step HB.out hb); replace ac := n0_; replace af := n1_; have df := n2_; replace ae := n3_; replace aa := n4_; replace HI0 := n5_; replace HK := n6_; replace HB := n7_; clear n0_ n1_ n2_ n3_ n4_ n5_ n6_ n7_; clear hb bA; obtain ⟨cK, cr, ec⟩ := Kd.S_slice df.out; subst ec; have j3 := aq.out; have jM := an.out; have e9 := bq40_ ae.out 0 rfl; have gv := bq40_ ae.out 1 rfl; have fw := bq40_ ae.out 2 rfl; have fH := bq40_ ae.out 3 rfl; have gI := bq40_ ae.out 4 rfl; have eM := qb40 ae.out 0; have fp := qb40 ae.out 1; have eL := qb40 ae.out 2; have fU := qb40 ae.out 3; have fT := qb40 ae.out 4))
          refine bodyPost_ret (results_cell_row rfl _ _ ag 26 #[.slice none 0 0, .int .i64 0, .int .i64 0, .slice cK cv.length cr, .int .i64 0] (0, 0) _ rfl (by (with_reducible repeat (first | apply qe40 | apply qf40 | apply qd40)); refine blk_put (cs := #[.slice none 0 0, .int .i64 0, .int .i64 0, .slice cK cv.length cr, .int .i64 0]) ?_ 4 _ rfl; refine blk_put (cs := #[.slice none 0 0, .int .i64 0, .int .i64 0, .slice none 0 0, .int .i64 0]) ?_ 3 _ rfl; refine blk_put (cs := #[.slice none 0 0, .int .i64 0, .int .i64 0, .slice none 0 0, .int .i64 0]) ?_ 2 _ rfl; refine blk_put (cs := #[.slice none 0 0, .int .i64 0, .int .i64 0, .slice none 0 0, .int .i64 0]) ?_ 1 _ rfl; refine blk_put (cs := #[.slice none 0 0, .int .i64 0, .int .i64 0, .slice none 0 0, .int .i64 0]) ?_ 0 _ rfl; (with_reducible repeat (first | apply qe40 | apply qf40 | apply qd40)); exact ae.out) Tryd.underlying26 rfl (by kernel_rfl)) rfl ?_
          exact ⟨_, _, by first | rfl | (simp [errW_none, errW_some] <;> rfl) | (simp [*, errW_none, errW_some] <;> rfl), by first | exact Kd.R_nil _ _ _ _ _ | exact Kd.N_nil _ _ _ _ _ | exact Kd.V_nil _ _ _ _ _ | exact Kd.Q_nil _ _ _ _ _ | exact Kd.S_nil _ _ _ _ _, by (with_reducible repeat (first | apply qK40 | apply qL40 | apply qO40)); exact qq40 (qp40 (p := ⟨ag, 4, none⟩) (qp40 (p := ⟨ag, 3, none⟩) (qp40 (p := ⟨ag, 2, none⟩) (qp40 (p := ⟨ag, 1, none⟩) (qp40 (p := ⟨ag, 0, none⟩) (Kd.S_types df.out ae.out (by decide)) (fun _ hk => hk.2) (.slice none 0 0)) (fun _ hk => hk.2) (.int .i64 0)) (fun _ hk => hk.2) (.int .i64 0)) (fun _ hk => hk.2) (.slice cK cv.length cr)) (fun _ hk => hk.2) (.int .i64 0)) (fun _ hk => trivial), by repeat (first | (with_reducible first | exact HI0.out | apply qr40 | apply qs40 | apply qv40 | apply qt40 | refine qg40 ?_ an.out _ | refine qg40 ?_ al.out _) | exact HI0.out), by repeat (first | (with_reducible first | exact HB.out | apply qI40 | apply qw40 | apply qF40 | refine qh40 ?_ (IsS71.ge HI0.out) | refine qh40 ?_ aJ.out | refine qh40 ?_ aK.out) | exact HB.out), by repeat (first | (with_reducible first | exact HK.out | apply qx40 | apply qH40 | apply qJ40 | apply qG40 | refine qm40 ?_ aG.out _ | refine qm40 ?_ aH.out _) | exact HK.out)⟩
        ·rw [if_neg c73] at H
         have ek : decide ((wrap64 (1 + bj)) < (wrap64 (aw + aB))) = false := decide_eq_false c73
         clear c73
         replace H := Option.bind_eq_some_iff.mp H
         obtain ⟨t284, dm, H⟩ := H
         (try dsimp only at H)
         have dO := qa40 dm
         clear dm
         by_cases cL : t284 = true
         ·subst cL
          have H1 : (some (ab, aw, aB, ai, ah, a7)) = some (r1, r2, r3, r4, r5, r6) := by rw [if_pos rfl] at H; exact H
          clear H
          have H := H1
          clear H1
          simp only [Option.some.injEq, Prod.mk.injEq] at H
          obtain ⟨rfl, rfl, rfl, rfl, rfl, rfl⟩ := H
          go_wp2_with (first | ((with_reducible refine gate_callee (f := 34) rfl ?_); refine goesL_ (some 71) rfl rfl Tryd.func34 (by kernel_rfl) rfl #[.pointer (some ⟨g, 0, none⟩), .int .i64 2] rfl (by (try simp only [ql40, qn40, qo40]) <;> rfl) ?_; (with_reducible refine (spec_l20Rd_pick.calls k2 g s0_0 aA 2 bh aU w0 _ ?side1 ?side2 A69.out).mono ?_); (case side1 => exact HI0.out); (case side2 => exact HB.out); rintro e w106 ⟨rfl, hi, hb, hk⟩; refine ⟨_, rfl, ?_⟩; have n0_ := qa40 (qk40 (qB40 (qu40 (show IsS71 w0 _ g s0_0 aA from HI0.out) ac.out (by decide)) hk (fun _ h => h.2)) (fun _ h => h.1)); have n1_ := qa40 (qq40 (Kd.S_keep (qQ40 (show IsS71 w0 _ g s0_0 aA from HI0.out) af.out (by decide)) hk (fun _ h => h.2)) (fun _ h => h.1)); have n2_ := qa40 (qj40 hk (g' := ag) (o := .cells #[.slice none 0 0, .int .i64 0, .int .i64 0, .slice none 0 0, .int .i64 0] 26 (0, 0)) ae.out aq.out (by simp)); have n3_ := qa40 (qj40 hk (g' := ad) (o := .cells #[au, .int .i64 0, .int .i64 0, av, .int .i64 ah] 26 (0, 0)) aa.out ap.out (by simp)); have n4_ := qa40 (qi40 HK.out hk (.inl rfl)); have n5_ := qa40 (hb); have n6_ := qa40 (hi); replace ac := n0_; replace af := n1_; replace ae := n2_; replace aa := n3_; replace HK := n4_; replace HB := n5_; replace HI0 := n6_; clear n0_ n1_ n2_ n3_ n4_ n5_ n6_; (try clear hb hk hi)) | ((with_reducible refine gate_callee (f := 34) rfl ?_); refine goesL_ (some 74) rfl rfl Tryd.func34 (by kernel_rfl) rfl #[.pointer (some ⟨g, 0, none⟩), .int .i64 2] rfl (by (try simp only [ql40, qn40, qo40]) <;> rfl) ?_; (with_reducible refine (spec_l20Rd_pick.calls k2 g s0_0 aU 2 aw aZ w0 _ ?side1 ?side2 A71.out).mono ?_); (case side1 => exact HI0.out); (case side2 => exact HB.out); rintro e w107 ⟨rfl, hi, hb, hk⟩; refine ⟨_, rfl, ?_⟩; have n0_ := qa40 (qk40 (qB40 (qu40 (show IsS71 w0 _ g s0_0 aU from HI0.out) ac.out (by decide)) hk (fun _ h => h.2)) (fun _ h => h.1)); have n1_ := qa40 (qq40 (Kd.S_keep (qQ40 (show IsS71 w0 _ g s0_0 aU from HI0.out) af.out (by decide)) hk (fun _ h => h.2)) (fun _ h => h.1)); have n2_ := qa40 (qj40 hk (g' := ag) (o := .cells #[.slice none 0 0, .int .i64 0, .int .i64 0, .slice none 0 0, .int .i64 0] 26 (0, 0)) ae.out aq.out (by simp)); have n3_ := qa40 (qj40 hk (g' := ad) (o := .cells #[au, .int .i64 0, .int .i64 0, av, .int .i64 ah] 26 (0, 0)) aa.out ap.out (by simp)); have n4_ := qa40 (qi40 HK.out hk (.inl rfl)); have n5_ := qa40 (hb); have n6_ := qa40 (hi); replace ac := n0_; replace af := n1_; replace ae := n2_; replace aa := n3_; replace HK := n4_; replace HB := n5_; replace HI0 := n6_; clear n0_ n1_ n2_ n3_ n4_ n5_ n6_; (try clear hb hk hi); have jN := aT.out; have jW := ar.out; have jO := ap.out; have jS := al.out; have ff := bq40_ aa.out 0 rfl; have eF := bq40_ aa.out 1 rfl; have f8 := bq40_ aa.out 2 rfl; have fl := bq40_ aa.out 3 rfl; have fL := bq40_ aa.out 4 rfl; have g2 := qb40 aa.out 0; have gC := qb40 aa.out 1; have fM := qb40 aa.out 2; have e2 := qb40 aa.out 3; have fk := qb40 aa.out 4) | ((with_reducible refine gate_callee (f := 34) rfl ?_); refine goesL_ (some 77) rfl rfl Tryd.func34 (by kernel_rfl) rfl #[.pointer (some ⟨g, 0, none⟩), .int .i64 2] rfl (by (try simp only [ql40, qn40, qo40]) <;> rfl) ?_; (with_reducible refine (spec_l20Rd_pick.calls k2 g s0_0 aZ 2 aB a7 w0 _ ?side1 ?side2 A72.out).mono ?_); (case side1 => repeat (first | (with_reducible first | exact HI0.out | apply qr40 | apply qs40 | apply qv40 | apply qt40 | refine qg40 ?_ an.out _ | refine qg40 ?_ al.out _) | exact HI0.out)); (case side2 => repeat (first | (with_reducible first | exact HB.out | apply qI40 | apply qw40 | apply qF40 | refine qh40 ?_ (IsS71.ge HI0.out) | refine qh40 ?_ aJ.out | refine qh40 ?_ aK.out) | exact HB.out)); rintro e gG ⟨rfl, hi, hb, hk⟩; refine ⟨_, rfl, ?_⟩; have n0_ := qa40 (qk40 (qB40 (qu40 (show IsS71 w0 _ g s0_0 aZ from by repeat (first | (with_reducible first | exact HI0.out | apply qr40 | apply qs40 | apply qv40 | apply qt40 | refine qg40 ?_ an.out _ | refine qg40 ?_ al.out _) | exact HI0.out)) (by (with_reducible repeat (first | apply qy40 | apply qz40 | apply qA40)); exact (qk40 (qD40 (p := ⟨ad, 1, none⟩) (qP40 ac.out aa.out (by decide)) (fun _ hk => hk.2) (.int .i64 aw)) (fun _ h_ => h_.1))) (by decide)) hk (fun _ h => h.2)) (fun _ h => h.1)); have n1_ := qa40 (qq40 (Kd.S_keep (qQ40 (show IsS71 w0 _ g s0_0 aZ from by repeat (first | (with_reducible first | exact HI0.out | apply qr40 | apply qs40 | apply qv40 | apply qt40 | refine qg40 ?_ an.out _ | refine qg40 ?_ al.out _) | exact HI0.out)) (by (with_reducible repeat (first | apply qK40 | apply qL40 | apply qO40)); exact (qq40 (qp40 (p := ⟨ad, 1, none⟩) (Kd.S_types af.out aa.out (by decide)) (fun _ hk => hk.2) (.int .i64 aw)) (fun _ h_ => h_.1))) (by decide)) hk (fun _ h => h.2)) (fun _ h => h.1)); have n2_ := qa40 (qj40 hk (g' := ag) (o := .cells #[.slice none 0 0, .int .i64 0, .int .i64 0, .slice none 0 0, .int .i64 0] 26 (0, 0)) (by (with_reducible repeat (first | apply qe40 | apply qf40 | apply qd40)); refine blk_far ?_ ar.out _; (with_reducible repeat (first | apply qe40 | apply qf40 | apply qd40)); exact ae.out) aq.out (by simp)); have n3_ := qa40 (qj40 hk (g' := ad) (o := .cells #[au, .int .i64 aw, .int .i64 0, av, .int .i64 ah] 26 (0, 0)) (by (with_reducible repeat (first | apply qe40 | apply qf40 | apply qd40)); refine blk_put (cs := #[au, .int .i64 0, .int .i64 0, av, .int .i64 ah]) ?_ 1 _ rfl; (with_reducible repeat (first | apply qe40 | apply qf40 | apply qd40)); exact aa.out) ap.out (by simp)); have n4_ := qa40 (qi40 (by repeat (first | (with_reducible first | exact HK.out | apply qx40 | apply qH40 | apply qJ40 | apply qG40 | refine qm40 ?_ aG.out _ | refine qm40 ?_ aH.out _) | exact HK.out)) hk (.inl rfl)); have n5_ := qa40 (hb); have n6_ := qa40 (hi); replace ac := n0_; replace af := n1_; replace ae := n2_; replace aa := n3_; replace HK := n4_; replace HB := n5_; replace HI0 := n6_; clear n0_ n1_ n2_ n3_ n4_ n5_ n6_; (try clear hb hk hi); have fu := bq40_ aa.out 0 rfl; have gT := bq40_ aa.out 1 rfl; have eT := bq40_ aa.out 2 rfl; have f2 := bq40_ aa.out 3 rfl; have f5 := bq40_ aa.out 4 rfl; have gl := qb40 aa.out 0; have fx := qb40 aa.out 1; have fZ := qb40 aa.out 2; have fK := qb40 aa.out 3; have gc := qb40 aa.out 4; obtain ⟨ba, a8, es⟩ := Kd.R_slice ac.out; subst es; obtain ⟨bq, bk, ee⟩ := Kd.S_slice af.out; subst ee) | ((with_reducible refine gate_callee (f := 9) rfl ?_); refine goesL_ (some 88) rfl rfl Tryd.func9 (by kernel_rfl) rfl #[.agg #[.slice ba ab.length a8, .int .i64 aw, .int .i64 aB, .slice bq ai.length bk, .int .i64 ah]] rfl (by (try simp only [ql40, qn40, qo40]); first | done | rfl | (simp only [qM40, qN40]; rfl)) ?_; (with_reducible refine (spec_TblOk.calls k2 _ _ ab aw aB _ _ ai ah true _ ?side1 ?side2 ?side3 ?side4 dO.out).mono ?_); (case side1 => refine (Kd.R_reads' (e := 29) (base := w.heap.size) (ok := fun k_ => True) (n := ab.length) (c := a8) ?_).2.2; exact (by (with_reducible repeat (first | apply qy40 | apply qz40 | apply qA40)); exact (qk40 (qD40 (p := ⟨ad, 2, none⟩) (qP40 ac.out aa.out (by decide)) (fun _ hk => hk.2) (.int .i64 aB)) (fun _ h_ => h_.1)))); (case side2 => exact (Kd.R_reads' ac.out).2.1); (case side3 => refine (Kd.S_reads' (e := 32) (base := w.heap.size) (ok := fun k_ => True) (n := ai.length) (c := bk) ?_).2.2; exact (by (with_reducible repeat (first | apply qK40 | apply qL40 | apply qO40)); exact (qq40 (qp40 (p := ⟨ad, 2, none⟩) (Kd.S_types af.out aa.out (by decide)) (fun _ hk => hk.2) (.int .i64 aB)) (fun _ h_ => h_.1)))); (case side4 => exact (Kd.S_reads' af.out).2.1); rintro e w115 ⟨rfl, hb⟩; refine ⟨_, rfl, ?_⟩; have n0_ := qa40 (Kd.R_below (by (with_reducible repeat (first | apply qy40 | apply qz40 | apply qA40)); exact (qk40 (qD40 (p := ⟨ad, 2, none⟩) (qP40 ac.out aa.out (by decide)) (fun _ hk => hk.2) (.int .i64 aB)) (fun _ h_ => h_.1))) hb); have n1_ := qa40 (Kd.S_below (by (with_reducible repeat (first | apply qK40 | apply qL40 | apply qO40)); exact (qq40 (qp40 (p := ⟨ad, 2, none⟩) (Kd.S_types af.out aa.out (by decide)) (fun _ hk => hk.2) (.int .i64 aB)) (fun _ h_ => h_.1))) hb); have n2_ := qa40 (qC40 (g := ag) (o := .cells #[.slice none 0 0, .int .i64 0, .int .i64 0, .slice none 0 0, .int .i64 0] 26 (0, 0)) (by (with_reducible repeat (first | apply qe40 | apply qf40 | apply qd40)); refine blk_far ?_ ar.out _; (with_reducible repeat (first | apply qe40 | apply qf40 | apply qd40)); exact ae.out) hb); have n3_ := qa40 (qC40 (g := ad) (o := .cells #[.slice ba ab.length a8, .int .i64 aw, .int .i64 aB, .slice bq ai.length bk, .int .i64 ah] 26 (0, 0)) (by (with_reducible repeat (first | apply qe40 | apply qf40 | apply qd40)); refine blk_put (cs := #[.slice ba ab.length a8, .int .i64 aw, .int .i64 0, .slice bq ai.length bk, .int .i64 ah]) ?_ 2 _ rfl; (with_reducible repeat (first | apply qe40 | apply qf40 | apply qd40)); exact aa.out) hb); have n4_ := qa40 (IsS71.below (show IsS71 w0 (gG.setCell ⟨ad, 2, none⟩ (.int .i64 aB)) g s0_0 a7 from by repeat (first | (with_reducible first | exact HI0.out | apply qr40 | apply qs40 | apply qv40 | apply qt40 | refine qg40 ?_ an.out _ | refine qg40 ?_ al.out _) | exact HI0.out)) hb); have n5_ := qa40 (qi40 (by repeat (first | (with_reducible first | exact HK.out | apply qx40 | apply qH40 | apply qJ40 | apply qG40 | refine qm40 ?_ aG.out _ | refine qm40 ?_ aH.out _) | exact HK.out)) (qE40 hb g none) (.inl rfl)); have n6_ := qa40 (below_step (by repeat (first | (with_reducible first | exact HB.out | apply qI40 | apply qw40 | apply qF40 | refine qh40 ?_ (IsS71.ge HI0.out) | refine qh40 ?_ aJ.out | refine qh40 ?_ aK.out) | exact HB.out)) hb); replace ac := n0_; replace af := n1_; replace ae := n2_; replace aa := n3_; replace HI0 := n4_; replace HK := n5_; replace HB := n6_; clear n0_ n1_ n2_ n3_ n4_ n5_ n6_; (try clear hb hk hi); have fY := bq40_ aa.out 0 rfl; have eK := bq40_ aa.out 1 rfl; have gX := bq40_ aa.out 2 rfl; have gj := bq40_ aa.out 3 rfl; have gJ := bq40_ aa.out 4 rfl; have eC := qb40 aa.out 0; have fv := qb40 aa.out 1; have fr := qb40 aa.out 2; have e7 := qb40 aa.out 3; have ga := qb40 aa.out 4; have jT := aq.out; have jI := an.out; have fQ := bq40_ ae.out 0 rfl; have gp := bq40_ ae.out 1 rfl; have gS := bq40_ ae.out 2 rfl; have eJ := bq40_ ae.out 3 rfl; have gH := bq40_ ae.out 4 rfl; have fz := qb40 ae.out 0; have fj := qb40 ae.out 1; have fB := qb40 ae.out 2; have gA := qb40 ae.out 3; have gZ := qb40 ae.out 4))
          refine bodyPost_ret (results_cell_row rfl _ _ ag 26 #[.slice ba ab.length a8, .int .i64 aw, .int .i64 aB, .slice bq ai.length bk, .int .i64 ah] (0, 0) _ rfl (by (with_reducible repeat (first | apply qe40 | apply qf40 | apply qd40)); refine blk_put (cs := #[.slice ba ab.length a8, .int .i64 aw, .int .i64 aB, .slice bq ai.length bk, .int .i64 0]) ?_ 4 _ rfl; refine blk_put (cs := #[.slice ba ab.length a8, .int .i64 aw, .int .i64 aB, .slice none 0 0, .int .i64 0]) ?_ 3 _ rfl; refine blk_put (cs := #[.slice ba ab.length a8, .int .i64 aw, .int .i64 0, .slice none 0 0, .int .i64 0]) ?_ 2 _ rfl; refine blk_put (cs := #[.slice ba ab.length a8, .int .i64 0, .int .i64 0, .slice none 0 0, .int .i64 0]) ?_ 1 _ rfl; refine blk_put (cs := #[.slice none 0 0, .int .i64 0, .int .i64 0, .slice none 0 0, .int .i64 0]) ?_ 0 _ rfl; (with_reducible repeat (first | apply qe40 | apply qf40 | apply qd40)); exact ae.out) Tryd.underlying26 rfl (by kernel_rfl)) rfl ?_
          exact ⟨_, _, by first | rfl | (simp [errW_none, errW_some] <;> rfl) | (simp [*, errW_none, errW_some] <;> rfl), by (with_reducible repeat (first | apply qy40 | apply qz40 | apply qA40)); exact qk40 (qD40 (p := ⟨ag, 4, none⟩) (qD40 (p := ⟨ag, 3, none⟩) (qD40 (p := ⟨ag, 2, none⟩) (qD40 (p := ⟨ag, 1, none⟩) (qD40 (p := ⟨ag, 0, none⟩) (qP40 ac.out ae.out (by decide)) (fun _ hk => hk.2) (.slice ba ab.length a8)) (fun _ hk => hk.2) (.int .i64 aw)) (fun _ hk => hk.2) (.int .i64 aB)) (fun _ hk => hk.2) (.slice bq ai.length bk)) (fun _ hk => hk.2) (.int .i64 ah)) (fun _ hk => trivial), by (with_reducible repeat (first | apply qK40 | apply qL40 | apply qO40)); exact qq40 (qp40 (p := ⟨ag, 4, none⟩) (qp40 (p := ⟨ag, 3, none⟩) (qp40 (p := ⟨ag, 2, none⟩) (qp40 (p := ⟨ag, 1, none⟩) (qp40 (p := ⟨ag, 0, none⟩) (Kd.S_types af.out ae.out (by decide)) (fun _ hk => hk.2) (.slice ba ab.length a8)) (fun _ hk => hk.2) (.int .i64 aw)) (fun _ hk => hk.2) (.int .i64 aB)) (fun _ hk => hk.2) (.slice bq ai.length bk)) (fun _ hk => hk.2) (.int .i64 ah)) (fun _ hk => trivial), by repeat (first | (with_reducible first | exact HI0.out | apply qr40 | apply qs40 | apply qv40 | apply qt40 | refine qg40 ?_ an.out _ | refine qg40 ?_ al.out _) | exact HI0.out), by repeat (first | (with_reducible first | exact HB.out | apply qI40 | apply qw40 | apply qF40 | refine qh40 ?_ (IsS71.ge HI0.out) | refine qh40 ?_ aJ.out | refine qh40 ?_ aK.out) | exact HB.out), by repeat (first | (with_reducible first | exact HK.out | apply qx40 | apply qH40 | apply qJ40 | apply qG40 | refine qm40 ?_ aG.out _ | refine qm40 ?_ aH.out _) | exact HK.out)⟩
         ·replace cL := Bool.eq_false_iff.mpr cL
          subst cL
          have H1 : (some (([] : List (S29)), 0, 0, (([(⟨([] : List (S37)), false⟩ : S32)] : List (S32))), 0, a7)) = some (r1, r2, r3, r4, r5, r6) := by rw [if_neg (show ¬ (false = true) by decide)] at H; exact H
          clear H
          have H := H1
          clear H1
          obtain ⟨cu, bF⟩ : ∃ y_ : List (S32), y_ = (([(⟨([] : List (S37)), false⟩ : S32)] : List (S32))) := ⟨_, rfl⟩
          replace H : (some (([] : List (S29)), 0, 0, cu, 0, a7)) = some (r1, r2, r3, r4, r5, r6) := by first | (rw [bF]; with_reducible exact H) | (have H2_ := (Option.bind_some _ _).symm.trans H; rw [bF]; with_reducible exact H2_) | (have H2_ := (Option.bind_some _ _).symm.trans H; with_reducible exact H2_) | with_reducible exact H | (rw [bF]; exact H) | exact H
          have di := qa40 bF
          clear bF
          simp only [Option.some.injEq, Prod.mk.injEq] at H
          obtain ⟨rfl, rfl, rfl, rfl, rfl, rfl⟩ := H
          go_wp2_with (first | ((with_reducible refine gate_callee (f := 34) rfl ?_); refine goesL_ (some 71) rfl rfl Tryd.func34 (by kernel_rfl) rfl #[.pointer (some ⟨g, 0, none⟩), .int .i64 2] rfl (by (try simp only [ql40, qn40, qo40]) <;> rfl) ?_; (with_reducible refine (spec_l20Rd_pick.calls k2 g s0_0 aA 2 bh aU w0 _ ?side1 ?side2 A69.out).mono ?_); (case side1 => exact HI0.out); (case side2 => exact HB.out); rintro e w119 ⟨rfl, hi, hb, hk⟩; refine ⟨_, rfl, ?_⟩; have n0_ := qa40 (qk40 (qB40 (qu40 (show IsS71 w0 _ g s0_0 aA from HI0.out) ac.out (by decide)) hk (fun _ h => h.2)) (fun _ h => h.1)); have n1_ := qa40 (qq40 (Kd.S_keep (qQ40 (show IsS71 w0 _ g s0_0 aA from HI0.out) af.out (by decide)) hk (fun _ h => h.2)) (fun _ h => h.1)); have n2_ := qa40 (qj40 hk (g' := ag) (o := .cells #[.slice none 0 0, .int .i64 0, .int .i64 0, .slice none 0 0, .int .i64 0] 26 (0, 0)) ae.out aq.out (by simp)); have n3_ := qa40 (qj40 hk (g' := ad) (o := .cells #[au, .int .i64 0, .int .i64 0, av, .int .i64 ah] 26 (0, 0)) aa.out ap.out (by simp)); have n4_ := qa40 (qi40 HK.out hk (.inl rfl)); have n5_ := qa40 (hb); have n6_ := qa40 (hi); replace ac := n0_; replace af := n1_; replace ae := n2_; replace aa := n3_; replace HK := n4_; replace HB := n5_; replace HI0 := n6_; clear n0_ n1_ n2_ n3_ n4_ n5_ n6_; (try clear hb hk hi)) | ((with_reducible refine gate_callee (f := 34) rfl ?_); refine goesL_ (some 74) rfl rfl Tryd.func34 (by kernel_rfl) rfl #[.pointer (some ⟨g, 0, none⟩), .int .i64 2] rfl (by (try simp only [ql40, qn40, qo40]) <;> rfl) ?_; (with_reducible refine (spec_l20Rd_pick.calls k2 g s0_0 aU 2 aw aZ w0 _ ?side1 ?side2 A71.out).mono ?_); (case side1 => exact HI0.out); (case side2 => exact HB.out); rintro e w120 ⟨rfl, hi, hb, hk⟩; refine ⟨_, rfl, ?_⟩; have n0_ := qa40 (qk40 (qB40 (qu40 (show IsS71 w0 _ g s0_0 aU from HI0.out) ac.out (by decide)) hk (fun _ h => h.2)) (fun _ h => h.1)); have n1_ := qa40 (qq40 (Kd.S_keep (qQ40 (show IsS71 w0 _ g s0_0 aU from HI0.out) af.out (by decide)) hk (fun _ h => h.2)) (fun _ h => h.1)); have n2_ := qa40 (qj40 hk (g' := ag) (o := .cells #[.slice none 0 0, .int .i64 0, .int .i64 0, .slice none 0 0, .int .i64 0] 26 (0, 0)) ae.out aq.out (by simp)); have n3_ := qa40 (qj40 hk (g' := ad) (o := .cells #[au, .int .i64 0, .int .i64 0, av, .int .i64 ah] 26 (0, 0)) aa.out ap.out (by simp)); have n4_ := qa40 (qi40 HK.out hk (.inl rfl)); have n5_ := qa40 (hb); have n6_ := qa40 (hi); replace ac := n0_; replace af := n1_; replace ae := n2_; replace aa := n3_; replace HK := n4_; replace HB := n5_; replace HI0 := n6_; clear n0_ n1_ n2_ n3_ n4_ n5_ n6_; (try clear hb hk hi); have j0 := aT.out; have j2 := ar.out; have jY := ap.out; have jJ := al.out; have fV := bq40_ aa.out 0 rfl; have gg := bq40_ aa.out 1 rfl; have fR := bq40_ aa.out 2 rfl; have fo := bq40_ aa.out 3 rfl; have fn := bq40_ aa.out 4 rfl; have fJ := qb40 aa.out 0; have gR := qb40 aa.out 1; have fP := qb40 aa.out 2; have g3 := qb40 aa.out 3; have gU := qb40 aa.out 4) | ((with_reducible refine gate_callee (f := 34) rfl ?_); refine goesL_ (some 77) rfl rfl Tryd.func34 (by kernel_rfl) rfl #[.pointer (some ⟨g, 0, none⟩), .int .i64 2] rfl (by (try simp only [ql40, qn40, qo40]) <;> rfl) ?_; (with_reducible refine (spec_l20Rd_pick.calls k2 g s0_0 aZ 2 aB a7 w0 _ ?side1 ?side2 A72.out).mono ?_); (case side1 => repeat (first | (with_reducible first | exact HI0.out | apply qr40 | apply qs40 | apply qv40 | apply qt40 | refine qg40 ?_ an.out _ | refine qg40 ?_ al.out _) | exact HI0.out)); (case side2 => repeat (first | (with_reducible first | exact HB.out | apply qI40 | apply qw40 | apply qF40 | refine qh40 ?_ (IsS71.ge HI0.out) | refine qh40 ?_ aJ.out | refine qh40 ?_ aK.out) | exact HB.out)); rintro e f4 ⟨rfl, hi, hb, hk⟩; refine ⟨_, rfl, ?_⟩; have n0_ := qa40 (qk40 (qB40 (qu40 (show IsS71 w0 _ g s0_0 aZ from by repeat (first | (with_reducible first | exact HI0.out | apply qr40 | apply qs40 | apply qv40 | apply qt40 | refine qg40 ?_ an.out _ | refine qg40 ?_ al.out _) | exact HI0.out)) (by (with_reducible repeat (first | apply qy40 | apply qz40 | apply qA40)); exact (qk40 (qD40 (p := ⟨ad, 1, none⟩) (qP40 ac.out aa.out (by decide)) (fun _ hk => hk.2) (.int .i64 aw)) (fun _ h_ => h_.1))) (by decide)) hk (fun _ h => h.2)) (fun _ h => h.1)); have n1_ := qa40 (qq40 (Kd.S_keep (qQ40 (show IsS71 w0 _ g s0_0 aZ from by repeat (first | (with_reducible first | exact HI0.out | apply qr40 | apply qs40 | apply qv40 | apply qt40 | refine qg40 ?_ an.out _ | refine qg40 ?_ al.out _) | exact HI0.out)) (by (with_reducible repeat (first | apply qK40 | apply qL40 | apply qO40)); exact (qq40 (qp40 (p := ⟨ad, 1, none⟩) (Kd.S_types af.out aa.out (by decide)) (fun _ hk => hk.2) (.int .i64 aw)) (fun _ h_ => h_.1))) (by decide)) hk (fun _ h => h.2)) (fun _ h => h.1)); have n2_ := qa40 (qj40 hk (g' := ag) (o := .cells #[.slice none 0 0, .int .i64 0, .int .i64 0, .slice none 0 0, .int .i64 0] 26 (0, 0)) (by (with_reducible repeat (first | apply qe40 | apply qf40 | apply qd40)); refine blk_far ?_ ar.out _; (with_reducible repeat (first | apply qe40 | apply qf40 | apply qd40)); exact ae.out) aq.out (by simp)); have n3_ := qa40 (qj40 hk (g' := ad) (o := .cells #[au, .int .i64 aw, .int .i64 0, av, .int .i64 ah] 26 (0, 0)) (by (with_reducible repeat (first | apply qe40 | apply qf40 | apply qd40)); refine blk_put (cs := #[au, .int .i64 0, .int .i64 0, av, .int .i64 ah]) ?_ 1 _ rfl; (with_reducible repeat (first | apply qe40 | apply qf40 | apply qd40)); exact aa.out) ap.out (by simp)); have n4_ := qa40 (qi40 (by repeat (first | (with_reducible first | exact HK.out | apply qx40 | apply qH40 | apply qJ40 | apply qG40 | refine qm40 ?_ aG.out _ | refine qm40 ?_ aH.out _) | exact HK.out)) hk (.inl rfl)); have n5_ := qa40 (hb); have n6_ := qa40 (hi); replace ac := n0_; replace af := n1_; replace ae := n2_; replace aa := n3_; replace HK := n4_; replace HB := n5_; replace HI0 := n6_; clear n0_ n1_ n2_ n3_ n4_ n5_ n6_; (try clear hb hk hi); have gs := bq40_ aa.out 0 rfl; have gP := bq40_ aa.out 1 rfl; have fq := bq40_ aa.out 2 rfl; have gt := bq40_ aa.out 3 rfl; have eR := bq40_ aa.out 4 rfl; have gz := qb40 aa.out 0; have gq := qb40 aa.out 1; have gb := qb40 aa.out 2; have fN := qb40 aa.out 3; have eB := qb40 aa.out 4; obtain ⟨b0, bH, ef⟩ := Kd.R_slice ac.out; subst ef; obtain ⟨b1, bO, eh⟩ := Kd.S_slice af.out; subst eh) | ((with_reducible refine gate_callee (f := 9) rfl ?_); refine goesL_ (some 88) rfl rfl Tryd.func9 (by kernel_rfl) rfl #[.agg #[.slice b0 ab.length bH, .int .i64 aw, .int .i64 aB, .slice b1 ai.length bO, .int .i64 ah]] rfl (by (try simp only [ql40, qn40, qo40]); first | done | rfl | (simp only [qM40, qN40]; rfl)) ?_; (with_reducible refine (spec_TblOk.calls k2 _ _ ab aw aB _ _ ai ah false _ ?side1 ?side2 ?side3 ?side4 dO.out).mono ?_); (case side1 => refine (Kd.R_reads' (e := 29) (base := w.heap.size) (ok := fun k_ => True) (n := ab.length) (c := bH) ?_).2.2; exact (by (with_reducible repeat (first | apply qy40 | apply qz40 | apply qA40)); exact (qk40 (qD40 (p := ⟨ad, 2, none⟩) (qP40 ac.out aa.out (by decide)) (fun _ hk => hk.2) (.int .i64 aB)) (fun _ h_ => h_.1)))); (case side2 => exact (Kd.R_reads' ac.out).2.1); (case side3 => refine (Kd.S_reads' (e := 32) (base := w.heap.size) (ok := fun k_ => True) (n := ai.length) (c := bO) ?_).2.2; exact (by (with_reducible repeat (first | apply qK40 | apply qL40 | apply qO40)); exact (qq40 (qp40 (p := ⟨ad, 2, none⟩) (Kd.S_types af.out aa.out (by decide)) (fun _ hk => hk.2) (.int .i64 aB)) (fun _ h_ => h_.1)))); (case side4 => exact (Kd.S_reads' af.out).2.1); rintro e w128 ⟨rfl, hb⟩; refine ⟨_, rfl, ?_⟩; have n0_ := qa40 (Kd.R_below (by (with_reducible repeat (first | apply qy40 | apply qz40 | apply qA40)); exact (qk40 (qD40 (p := ⟨ad, 2, none⟩) (qP40 ac.out aa.out (by decide)) (fun _ hk => hk.2) (.int .i64 aB)) (fun _ h_ => h_.1))) hb); have n1_ := qa40 (Kd.S_below (by (with_reducible repeat (first | apply qK40 | apply qL40 | apply qO40)); exact (qq40 (qp40 (p := ⟨ad, 2, none⟩) (Kd.S_types af.out aa.out (by decide)) (fun _ hk => hk.2) (.int .i64 aB)) (fun _ h_ => h_.1))) hb); have n2_ := qa40 (qC40 (g := ag) (o := .cells #[.slice none 0 0, .int .i64 0, .int .i64 0, .slice none 0 0, .int .i64 0] 26 (0, 0)) (by (with_reducible repeat (first | apply qe40 | apply qf40 | apply qd40)); refine blk_far ?_ ar.out _; (with_reducible repeat (first | apply qe40 | apply qf40 | apply qd40)); exact ae.out) hb); have n3_ := qa40 (qC40 (g := ad) (o := .cells #[.slice b0 ab.length bH, .int .i64 aw, .int .i64 aB, .slice b1 ai.length bO, .int .i64 ah] 26 (0, 0)) (by (with_reducible repeat (first | apply qe40 | apply qf40 | apply qd40)); refine blk_put (cs := #[.slice b0 ab.length bH, .int .i64 aw, .int .i64 0, .slice b1 ai.length bO, .int .i64 ah]) ?_ 2 _ rfl; (with_reducible repeat (first | apply qe40 | apply qf40 | apply qd40)); exact aa.out) hb); have n4_ := qa40 (IsS71.below (show IsS71 w0 (f4.setCell ⟨ad, 2, none⟩ (.int .i64 aB)) g s0_0 a7 from by repeat (first | (with_reducible first | exact HI0.out | apply qr40 | apply qs40 | apply qv40 | apply qt40 | refine qg40 ?_ an.out _ | refine qg40 ?_ al.out _) | exact HI0.out)) hb); have n5_ := qa40 (qi40 (by repeat (first | (with_reducible first | exact HK.out | apply qx40 | apply qH40 | apply qJ40 | apply qG40 | refine qm40 ?_ aG.out _ | refine qm40 ?_ aH.out _) | exact HK.out)) (qE40 hb g none) (.inl rfl)); have n6_ := qa40 (below_step (by repeat (first | (with_reducible first | exact HB.out | apply qI40 | apply qw40 | apply qF40 | refine qh40 ?_ (IsS71.ge HI0.out) | refine qh40 ?_ aJ.out | refine qh40 ?_ aK.out) | exact HB.out)) hb); replace ac := n0_; replace af := n1_; replace ae := n2_; replace aa := n3_; replace HI0 := n4_; replace HK := n5_; replace HB := n6_; clear n0_ n1_ n2_ n3_ n4_ n5_ n6_; (try clear hb hk hi)) | ((with_reducible refine gate_dst (N := 91) rfl ?_); refine Kd.S_lit k32 _ 32 ?hg (N := 91) ?hd (xs := ([(⟨([] : List (S37)), false⟩ : S32)] : List (S32))) (inner := [.slice none 0 0, .bool false]) (ok := fun _ => True) (okp := fun _ => True) ?hr ?hp (fun _ hk => hk) trivial (Below.refl _ _) (Nat.le_refl _) (by simp) ?_; (case hd => rfl); (case hg => rfl); (case hr => go_simp <;> rfl); (case hp => exact (Reps.c2 (show Kd.M k32 _ _ _ (⟨([] : List (S37)), false⟩ : S32) [.slice none 0 0, .bool false] from (k32_mkM _ _ _ (⟨([] : List (S37)), false⟩ : S32) (Kd.R_nil _ _ _ _ _))) (Reps.none _ _))); intro v286 w129 bC hb hg_ hnew_; clear hg_ hnew_; (first | rw [← di.out] at bC | (simp only [Int.reduceToNat] at bC; rw [← di.out] at bC)); have n0_ := qa40 (Kd.R_below ac.out hb); have n1_ := qa40 (Kd.S_elder' af.out (Kd.S_base bC) hb); have n2_ := qa40 (Kd.S_lower (Kd.S_new' bC (Kd.S_lt af.out)) (keep_size (w := w) (g := g) (row := none) HK.out)); have n3_ := qa40 (qC40 (g := ag) (o := .cells #[.slice none 0 0, .int .i64 0, .int .i64 0, .slice none 0 0, .int .i64 0] 26 (0, 0)) ae.out hb); have n4_ := qa40 (qC40 (g := ad) (o := .cells #[.slice b0 ab.length bH, .int .i64 aw, .int .i64 aB, .slice b1 ai.length bO, .int .i64 ah] 26 (0, 0)) aa.out hb); have n5_ := qa40 (IsS71.below HI0.out hb); have n6_ := qa40 (qi40 HK.out (qE40 hb g none) (.inl rfl)); have n7_ := qa40 (below_step HB.out hb); replace ac := n0_; replace af := n1_; have de := n2_; replace ae := n3_; replace aa := n4_; replace HI0 := n5_; replace HK := n6_; replace HB := n7_; clear n0_ n1_ n2_ n3_ n4_ n5_ n6_ n7_; clear hb bC; obtain ⟨cH, cC, et⟩ := Kd.S_slice de.out; subst et; have j7 := aq.out; have j5 := an.out; have fh := bq40_ ae.out 0 rfl; have eI := bq40_ ae.out 1 rfl; have gd := bq40_ ae.out 2 rfl; have eA := bq40_ ae.out 3 rfl; have eY := bq40_ ae.out 4 rfl; have fc := qb40 ae.out 0; have f7 := qb40 ae.out 1; have gi := qb40 ae.out 2; have eO := qb40 ae.out 3; have gy := qb40 ae.out 4))
          refine bodyPost_ret (results_cell_row rfl _ _ ag 26 #[.slice none 0 0, .int .i64 0, .int .i64 0, .slice cH cu.length cC, .int .i64 0] (0, 0) _ rfl (by (with_reducible repeat (first | apply qe40 | apply qf40 | apply qd40)); refine blk_put (cs := #[.slice none 0 0, .int .i64 0, .int .i64 0, .slice cH cu.length cC, .int .i64 0]) ?_ 4 _ rfl; refine blk_put (cs := #[.slice none 0 0, .int .i64 0, .int .i64 0, .slice none 0 0, .int .i64 0]) ?_ 3 _ rfl; refine blk_put (cs := #[.slice none 0 0, .int .i64 0, .int .i64 0, .slice none 0 0, .int .i64 0]) ?_ 2 _ rfl; refine blk_put (cs := #[.slice none 0 0, .int .i64 0, .int .i64 0, .slice none 0 0, .int .i64 0]) ?_ 1 _ rfl; refine blk_put (cs := #[.slice none 0 0, .int .i64 0, .int .i64 0, .slice none 0 0, .int .i64 0]) ?_ 0 _ rfl; (with_reducible repeat (first | apply qe40 | apply qf40 | apply qd40)); exact ae.out) Tryd.underlying26 rfl (by kernel_rfl)) rfl ?_
          exact ⟨_, _, by first | rfl | (simp [errW_none, errW_some] <;> rfl) | (simp [*, errW_none, errW_some] <;> rfl), by first | exact Kd.R_nil _ _ _ _ _ | exact Kd.N_nil _ _ _ _ _ | exact Kd.V_nil _ _ _ _ _ | exact Kd.Q_nil _ _ _ _ _ | exact Kd.S_nil _ _ _ _ _, by (with_reducible repeat (first | apply qK40 | apply qL40 | apply qO40)); exact qq40 (qp40 (p := ⟨ag, 4, none⟩) (qp40 (p := ⟨ag, 3, none⟩) (qp40 (p := ⟨ag, 2, none⟩) (qp40 (p := ⟨ag, 1, none⟩) (qp40 (p := ⟨ag, 0, none⟩) (Kd.S_types de.out ae.out (by decide)) (fun _ hk => hk.2) (.slice none 0 0)) (fun _ hk => hk.2) (.int .i64 0)) (fun _ hk => hk.2) (.int .i64 0)) (fun _ hk => hk.2) (.slice cH cu.length cC)) (fun _ hk => hk.2) (.int .i64 0)) (fun _ hk => trivial), by repeat (first | (with_reducible first | exact HI0.out | apply qr40 | apply qs40 | apply qv40 | apply qt40 | refine qg40 ?_ an.out _ | refine qg40 ?_ al.out _) | exact HI0.out), by repeat (first | (with_reducible first | exact HB.out | apply qI40 | apply qw40 | apply qF40 | refine qh40 ?_ (IsS71.ge HI0.out) | refine qh40 ?_ aJ.out | refine qh40 ?_ aK.out) | exact HB.out), by repeat (first | (with_reducible first | exact HK.out | apply qx40 | apply qH40 | apply qJ40 | apply qG40 | refine qm40 ?_ aG.out _ | refine qm40 ?_ aH.out _) | exact HK.out)⟩
       ·rw [if_neg c70] at H
        have en : (bh == 0) = false := beq_eq_false_iff_ne.mpr c70
        have el : (bh != 0) = true := bne_iff_ne.mpr c70
        replace H := Option.bind_eq_some_iff.mp H
        obtain ⟨t288, dy, H⟩ := H
        (try dsimp only at H)
        have d2 := qa40 dy
        clear dy
        by_cases cz : t288 = true
        ·subst cz
         have H1 : (some (ab, 0, 0, ai, ah, aU)) = some (r1, r2, r3, r4, r5, r6) := by rw [if_pos rfl] at H; exact H
         clear H
         have H := H1
         clear H1
         simp only [Option.some.injEq, Prod.mk.injEq] at H
         obtain ⟨rfl, rfl, rfl, rfl, rfl, rfl⟩ := H
         go_wp2_with (first | ((with_reducible refine gate_callee (f := 34) rfl ?_); refine goesL_ (some 71) rfl rfl Tryd.func34 (by kernel_rfl) rfl #[.pointer (some ⟨g, 0, none⟩), .int .i64 2] rfl (by (try simp only [ql40, qn40, qo40]) <;> rfl) ?_; (with_reducible refine (spec_l20Rd_pick.calls k2 g s0_0 aA 2 bh aU w0 _ ?side1 ?side2 A69.out).mono ?_); (case side1 => exact HI0.out); (case side2 => exact HB.out); rintro e w136 ⟨rfl, hi, hb, hk⟩; refine ⟨_, rfl, ?_⟩; have n0_ := qa40 (qk40 (qB40 (qu40 (show IsS71 w0 _ g s0_0 aA from HI0.out) ac.out (by decide)) hk (fun _ h => h.2)) (fun _ h => h.1)); have n1_ := qa40 (qq40 (Kd.S_keep (qQ40 (show IsS71 w0 _ g s0_0 aA from HI0.out) af.out (by decide)) hk (fun _ h => h.2)) (fun _ h => h.1)); have n2_ := qa40 (qj40 hk (g' := ag) (o := .cells #[.slice none 0 0, .int .i64 0, .int .i64 0, .slice none 0 0, .int .i64 0] 26 (0, 0)) ae.out aq.out (by simp)); have n3_ := qa40 (qj40 hk (g' := ad) (o := .cells #[au, .int .i64 0, .int .i64 0, av, .int .i64 ah] 26 (0, 0)) aa.out ap.out (by simp)); have n4_ := qa40 (qi40 HK.out hk (.inl rfl)); have n5_ := qa40 (hb); have n6_ := qa40 (hi); replace ac := n0_; replace af := n1_; replace ae := n2_; replace aa := n3_; replace HK := n4_; replace HB := n5_; replace HI0 := n6_; clear n0_ n1_ n2_ n3_ n4_ n5_ n6_; (try clear hb hk hi); have j1 := aT.out; have jU := ar.out; have jZ := ap.out; have jQ := al.out; have gm := bq40_ aa.out 0 rfl; have fe := bq40_ aa.out 1 rfl; have fW := bq40_ aa.out 2 rfl; have fI := bq40_ aa.out 3 rfl; have gE := bq40_ aa.out 4 rfl; have gn := qb40 aa.out 0; have gF := qb40 aa.out 1; have gB := qb40 aa.out 2; have eQ := qb40 aa.out 3; have fm := qb40 aa.out 4; obtain ⟨be, bd, em⟩ := Kd.R_slice ac.out; subst em; obtain ⟨bz, bw, eg⟩ := Kd.S_slice af.out; subst eg) | ((with_reducible refine gate_callee (f := 9) rfl ?_); refine goesL_ (some 88) rfl rfl Tryd.func9 (by kernel_rfl) rfl #[.agg #[.slice be ab.length bd, .int .i64 0, .int .i64 0, .slice bz ai.length bw, .int .i64 ah]] rfl (by (try simp only [ql40, qn40, qo40]); first | done | rfl | (simp only [qM40, qN40]; rfl)) ?_; (with_reducible refine (spec_TblOk.calls k2 _ _ ab 0 0 _ _ ai ah true _ ?side1 ?side2 ?side3 ?side4 d2.out).mono ?_); (case side1 => repeat (first | exact (Kd.R_reads' ac.out).2.2 | (with_reducible refine Kd.C_alloc ?_ _) | (with_reducible refine Kd.C_drewN ?_ _) | (with_reducible refine Kd.C_drew ?_))); (case side2 => exact (Kd.R_reads' ac.out).2.1); (case side3 => repeat (first | exact (Kd.S_reads' af.out).2.2 | (with_reducible refine Kd.C_alloc ?_ _) | (with_reducible refine Kd.C_drewN ?_ _) | (with_reducible refine Kd.C_drew ?_))); (case side4 => exact (Kd.S_reads' af.out).2.1); rintro e w142 ⟨rfl, hb⟩; refine ⟨_, rfl, ?_⟩; have n0_ := qa40 (Kd.R_below ac.out hb); have n1_ := qa40 (Kd.S_below af.out hb); have n2_ := qa40 (qC40 (g := ag) (o := .cells #[.slice none 0 0, .int .i64 0, .int .i64 0, .slice none 0 0, .int .i64 0] 26 (0, 0)) ae.out hb); have n3_ := qa40 (qC40 (g := ad) (o := .cells #[.slice be ab.length bd, .int .i64 0, .int .i64 0, .slice bz ai.length bw, .int .i64 ah] 26 (0, 0)) aa.out hb); have n4_ := qa40 (IsS71.below HI0.out hb); have n5_ := qa40 (qi40 HK.out (qE40 hb g none) (.inl rfl)); have n6_ := qa40 (below_step HB.out hb); replace ac := n0_; replace af := n1_; replace ae := n2_; replace aa := n3_; replace HI0 := n4_; replace HK := n5_; replace HB := n6_; clear n0_ n1_ n2_ n3_ n4_ n5_ n6_; (try clear hb hk hi); have fs := bq40_ aa.out 0 rfl; have gM := bq40_ aa.out 1 rfl; have e1 := bq40_ aa.out 2 rfl; have gu := bq40_ aa.out 3 rfl; have gW := bq40_ aa.out 4 rfl; have g0 := qb40 aa.out 0; have gh := qb40 aa.out 1; have ft := qb40 aa.out 2; have gK := qb40 aa.out 3; have f3 := qb40 aa.out 4; have j6 := aq.out; have jR := an.out; have eU := bq40_ ae.out 0 rfl; have eW := bq40_ ae.out 1 rfl; have e8 := bq40_ ae.out 2 rfl; have e6 := bq40_ ae.out 3 rfl; have fC := bq40_ ae.out 4 rfl; have gN := qb40 ae.out 0; have fA := qb40 ae.out 1; have eE := qb40 ae.out 2; have fy := qb40 ae.out 3; have fb := qb40 ae.out 4))
         refine bodyPost_ret (results_cell_row rfl _ _ ag 26 #[.slice be ab.length bd, .int .i64 0, .int .i64 0, .slice bz ai.length bw, .int .i64 ah] (0, 0) _ rfl (by (with_reducible repeat (first | apply qe40 | apply qf40 | apply qd40)); refine blk_put (cs := #[.slice be ab.length bd, .int .i64 0, .int .i64 0, .slice bz ai.length bw, .int .i64 0]) ?_ 4 _ rfl; refine blk_put (cs := #[.slice be ab.length bd, .int .i64 0, .int .i64 0, .slice none 0 0, .int .i64 0]) ?_ 3 _ rfl; refine blk_put (cs := #[.slice be ab.length bd, .int .i64 0, .int .i64 0, .slice none 0 0, .int .i64 0]) ?_ 2 _ rfl; refine blk_put (cs := #[.slice be ab.length bd, .int .i64 0, .int .i64 0, .slice none 0 0, .int .i64 0]) ?_ 1 _ rfl; refine blk_put (cs := #[.slice none 0 0, .int .i64 0, .int .i64 0, .slice none 0 0, .int .i64 0]) ?_ 0 _ rfl; (with_reducible repeat (first | apply qe40 | apply qf40 | apply qd40)); exact ae.out) Tryd.underlying26 rfl (by kernel_rfl)) rfl ?_
         exact ⟨_, _, by first | rfl | (simp [errW_none, errW_some] <;> rfl) | (simp [*, errW_none, errW_some] <;> rfl), by (with_reducible repeat (first | apply qy40 | apply qz40 | apply qA40)); exact qk40 (qD40 (p := ⟨ag, 4, none⟩) (qD40 (p := ⟨ag, 3, none⟩) (qD40 (p := ⟨ag, 2, none⟩) (qD40 (p := ⟨ag, 1, none⟩) (qD40 (p := ⟨ag, 0, none⟩) (qP40 ac.out ae.out (by decide)) (fun _ hk => hk.2) (.slice be ab.length bd)) (fun _ hk => hk.2) (.int .i64 0)) (fun _ hk => hk.2) (.int .i64 0)) (fun _ hk => hk.2) (.slice bz ai.length bw)) (fun _ hk => hk.2) (.int .i64 ah)) (fun _ hk => trivial), by (with_reducible repeat (first | apply qK40 | apply qL40 | apply qO40)); exact qq40 (qp40 (p := ⟨ag, 4, none⟩) (qp40 (p := ⟨ag, 3, none⟩) (qp40 (p := ⟨ag, 2, none⟩) (qp40 (p := ⟨ag, 1, none⟩) (qp40 (p := ⟨ag, 0, none⟩) (Kd.S_types af.out ae.out (by decide)) (fun _ hk => hk.2) (.slice be ab.length bd)) (fun _ hk => hk.2) (.int .i64 0)) (fun _ hk => hk.2) (.int .i64 0)) (fun _ hk => hk.2) (.slice bz ai.length bw)) (fun _ hk => hk.2) (.int .i64 ah)) (fun _ hk => trivial), by repeat (first | (with_reducible first | exact HI0.out | apply qr40 | apply qs40 | apply qv40 | apply qt40 | refine qg40 ?_ an.out _ | refine qg40 ?_ al.out _) | exact HI0.out), by repeat (first | (with_reducible first | exact HB.out | apply qI40 | apply qw40 | apply qF40 | refine qh40 ?_ (IsS71.ge HI0.out) | refine qh40 ?_ aJ.out | refine qh40 ?_ aK.out) | exact HB.out), by repeat (first | (with_reducible first | exact HK.out | apply qx40 | apply qH40 | apply qJ40 | apply qG40 | refine qm40 ?_ aG.out _ | refine qm40 ?_ aH.out _) | exact HK.out)⟩
        ·replace cz := Bool.eq_false_iff.mpr cz
         subst cz
         have H1 : (some (([] : List (S29)), 0, 0, (([(⟨([] : List (S37)), false⟩ : S32)] : List (S32))), 0, aU)) = some (r1, r2, r3, r4, r5, r6) := by rw [if_neg (show ¬ (false = true) by decide)] at H; exact H
         clear H
         have H := H1
         clear H1
         obtain ⟨cN, bM⟩ : ∃ y_ : List (S32), y_ = (([(⟨([] : List (S37)), false⟩ : S32)] : List (S32))) := ⟨_, rfl⟩
         replace H : (some (([] : List (S29)), 0, 0, cN, 0, aU)) = some (r1, r2, r3, r4, r5, r6) := by first | (rw [bM]; with_reducible exact H) | (have H2_ := (Option.bind_some _ _).symm.trans H; rw [bM]; with_reducible exact H2_) | (have H2_ := (Option.bind_some _ _).symm.trans H; with_reducible exact H2_) | with_reducible exact H | (rw [bM]; exact H) | exact H
         have du := qa40 bM
         clear bM
         simp only [Option.some.injEq, Prod.mk.injEq] at H
         obtain ⟨rfl, rfl, rfl, rfl, rfl, rfl⟩ := H
         go_wp2_with (first | ((with_reducible refine gate_callee (f := 34) rfl ?_); refine goesL_ (some 71) rfl rfl Tryd.func34 (by kernel_rfl) rfl #[.pointer (some ⟨g, 0, none⟩), .int .i64 2] rfl (by (try simp only [ql40, qn40, qo40]) <;> rfl) ?_; (with_reducible refine (spec_l20Rd_pick.calls k2 g s0_0 aA 2 bh aU w0 _ ?side1 ?side2 A69.out).mono ?_); (case side1 => exact HI0.out); (case side2 => exact HB.out); rintro e w146 ⟨rfl, hi, hb, hk⟩; refine ⟨_, rfl, ?_⟩; have n0_ := qa40 (qk40 (qB40 (qu40 (show IsS71 w0 _ g s0_0 aA from HI0.out) ac.out (by decide)) hk (fun _ h => h.2)) (fun _ h => h.1)); have n1_ := qa40 (qq40 (Kd.S_keep (qQ40 (show IsS71 w0 _ g s0_0 aA from HI0.out) af.out (by decide)) hk (fun _ h => h.2)) (fun _ h => h.1)); have n2_ := qa40 (qj40 hk (g' := ag) (o := .cells #[.slice none 0 0, .int .i64 0, .int .i64 0, .slice none 0 0, .int .i64 0] 26 (0, 0)) ae.out aq.out (by simp)); have n3_ := qa40 (qj40 hk (g' := ad) (o := .cells #[au, .int .i64 0, .int .i64 0, av, .int .i64 ah] 26 (0, 0)) aa.out ap.out (by simp)); have n4_ := qa40 (qi40 HK.out hk (.inl rfl)); have n5_ := qa40 (hb); have n6_ := qa40 (hi); replace ac := n0_; replace af := n1_; replace ae := n2_; replace aa := n3_; replace HK := n4_; replace HB := n5_; replace HI0 := n6_; clear n0_ n1_ n2_ n3_ n4_ n5_ n6_; (try clear hb hk hi); have jK := aT.out; have jL := ar.out; have jP := ap.out; have j4 := al.out; have e4 := bq40_ aa.out 0 rfl; have fS := bq40_ aa.out 1 rfl; have e3 := bq40_ aa.out 2 rfl; have f9 := bq40_ aa.out 3 rfl; have g1 := bq40_ aa.out 4 rfl; have gL := qb40 aa.out 0; have eH := qb40 aa.out 1; have eD := qb40 aa.out 2; have gO := qb40 aa.out 3; have fa := qb40 aa.out 4; obtain ⟨cI, cA, ez⟩ := Kd.R_slice ac.out; subst ez; obtain ⟨cw, cB, er⟩ := Kd.S_slice af.out; subst er) | ((with_reducible refine gate_callee (f := 9) rfl ?_); refine goesL_ (some 88) rfl rfl Tryd.func9 (by kernel_rfl) rfl #[.agg #[.slice cI ab.length cA, .int .i64 0, .int .i64 0, .slice cw ai.length cB, .int .i64 ah]] rfl (by (try simp only [ql40, qn40, qo40]); first | done | rfl | (simp only [qM40, qN40]; rfl)) ?_; (with_reducible refine (spec_TblOk.calls k2 _ _ ab 0 0 _ _ ai ah false _ ?side1 ?side2 ?side3 ?side4 d2.out).mono ?_); (case side1 => repeat (first | exact (Kd.R_reads' ac.out).2.2 | (with_reducible refine Kd.C_alloc ?_ _) | (with_reducible refine Kd.C_drewN ?_ _) | (with_reducible refine Kd.C_drew ?_))); (case side2 => exact (Kd.R_reads' ac.out).2.1); (case side3 => repeat (first | exact (Kd.S_reads' af.out).2.2 | (with_reducible refine Kd.C_alloc ?_ _) | (with_reducible refine Kd.C_drewN ?_ _) | (with_reducible refine Kd.C_drew ?_))); (case side4 => exact (Kd.S_reads' af.out).2.1); rintro e w152 ⟨rfl, hb⟩; refine ⟨_, rfl, ?_⟩; have n0_ := qa40 (Kd.R_below ac.out hb); have n1_ := qa40 (Kd.S_below af.out hb); have n2_ := qa40 (qC40 (g := ag) (o := .cells #[.slice none 0 0, .int .i64 0, .int .i64 0, .slice none 0 0, .int .i64 0] 26 (0, 0)) ae.out hb); have n3_ := qa40 (qC40 (g := ad) (o := .cells #[.slice cI ab.length cA, .int .i64 0, .int .i64 0, .slice cw ai.length cB, .int .i64 ah] 26 (0, 0)) aa.out hb); have n4_ := qa40 (IsS71.below HI0.out hb); have n5_ := qa40 (qi40 HK.out (qE40 hb g none) (.inl rfl)); have n6_ := qa40 (below_step HB.out hb); replace ac := n0_; replace af := n1_; replace ae := n2_; replace aa := n3_; replace HI0 := n4_; replace HK := n5_; replace HB := n6_; clear n0_ n1_ n2_ n3_ n4_ n5_ n6_; (try clear hb hk hi)) | ((with_reducible refine gate_dst (N := 91) rfl ?_); refine Kd.S_lit k32 _ 32 ?hg (N := 91) ?hd (xs := ([(⟨([] : List (S37)), false⟩ : S32)] : List (S32))) (inner := [.slice none 0 0, .bool false]) (ok := fun _ => True) (okp := fun _ => True) ?hr ?hp (fun _ hk => hk) trivial (Below.refl _ _) (Nat.le_refl _) (by simp) ?_; (case hd => rfl); (case hg => rfl); (case hr => go_simp <;> rfl); (case hp => exact (Reps.c2 (show Kd.M k32 _ _ _ (⟨([] : List (S37)), false⟩ : S32) [.slice none 0 0, .bool false] from (k32_mkM _ _ _ (⟨([] : List (S37)), false⟩ : S32) (Kd.R_nil _ _ _ _ _))) (Reps.none _ _))); intro v290 w153 bD hb hg_ hnew_; clear hg_ hnew_; (first | rw [← du.out] at bD | (simp only [Int.reduceToNat] at bD; rw [← du.out] at bD)); have n0_ := qa40 (Kd.R_below ac.out hb); have n1_ := qa40 (Kd.S_elder' af.out (Kd.S_base bD) hb); have n2_ := qa40 (Kd.S_lower (Kd.S_new' bD (Kd.S_lt af.out)) (keep_size (w := w) (g := g) (row := none) HK.out)); have n3_ := qa40 (qC40 (g := ag) (o := .cells #[.slice none 0 0, .int .i64 0, .int .i64 0, .slice none 0 0, .int .i64 0] 26 (0, 0)) ae.out hb); have n4_ := qa40 (qC40 (g := ad) (o := .cells #[.slice cI ab.length cA, .int .i64 0, .int .i64 0, .slice cw ai.length cB, .int .i64 ah] 26 (0, 0)) aa.out hb); have n5_ := qa40 (IsS71.below HI0.out hb); have n6_ := qa40 (qi40 HK.out (qE40 hb g none) (.inl rfl)); have n7_ := qa40 (below_step HB.out hb); replace ac := n0_; replace af := n1_; have dl := n2_; replace ae := n3_; replace aa := n4_; replace HI0 := n5_; replace HK := n6_; replace HB := n7_; clear n0_ n1_ n2_ n3_ n4_ n5_ n6_ n7_; clear hb bD; obtain ⟨cy, cF, ey⟩ := Kd.S_slice dl.out; subst ey; have jX := aq.out; have jV := an.out; have gQ := bq40_ ae.out 0 rfl; have fG := bq40_ ae.out 1 rfl; have fD := bq40_ ae.out 2 rfl; have gf := bq40_ ae.out 3 rfl; have eS := bq40_ ae.out 4 rfl; have fE := qb40 ae.out 0; have gD := qb40 ae.out 1; have gw := qb40 ae.out 2; have fd := qb40 ae.out 3; have gx := qb40 ae.out 4))
         refine bodyPost_ret (results_cell_row rfl _ _ ag 26 #[.slice none 0 0, .int .i64 0, .int .i64 0, .slice cy cN.length cF, .int .i64 0] (0, 0) _ rfl (by (with_reducible repeat (first | apply qe40 | apply qf40 | apply qd40)); refine blk_put (cs := #[.slice none 0 0, .int .i64 0, .int .i64 0, .slice cy cN.length cF, .int .i64 0]) ?_ 4 _ rfl; refine blk_put (cs := #[.slice none 0 0, .int .i64 0, .int .i64 0, .slice none 0 0, .int .i64 0]) ?_ 3 _ rfl; refine blk_put (cs := #[.slice none 0 0, .int .i64 0, .int .i64 0, .slice none 0 0, .int .i64 0]) ?_ 2 _ rfl; refine blk_put (cs := #[.slice none 0 0, .int .i64 0, .int .i64 0, .slice none 0 0, .int .i64 0]) ?_ 1 _ rfl; refine blk_put (cs := #[.slice none 0 0, .int .i64 0, .int .i64 0, .slice none 0 0, .int .i64 0]) ?_ 0 _ rfl; (with_reducible repeat (first | apply qe40 | apply qf40 | apply qd40)); exact ae.out) Tryd.underlying26 rfl (by kernel_rfl)) rfl ?_
         exact ⟨_, _, by first | rfl | (simp [errW_none, errW_some] <;> rfl) | (simp [*, errW_none, errW_some] <;> rfl), by first | exact Kd.R_nil _ _ _ _ _ | exact Kd.N_nil _ _ _ _ _ | exact Kd.V_nil _ _ _ _ _ | exact Kd.Q_nil _ _ _ _ _ | exact Kd.S_nil _ _ _ _ _, by (with_reducible repeat (first | apply qK40 | apply qL40 | apply qO40)); exact qq40 (qp40 (p := ⟨ag, 4, none⟩) (qp40 (p := ⟨ag, 3, none⟩) (qp40 (p := ⟨ag, 2, none⟩) (qp40 (p := ⟨ag, 1, none⟩) (qp40 (p := ⟨ag, 0, none⟩) (Kd.S_types dl.out ae.out (by decide)) (fun _ hk => hk.2) (.slice none 0 0)) (fun _ hk => hk.2) (.int .i64 0)) (fun _ hk => hk.2) (.int .i64 0)) (fun _ hk => hk.2) (.slice cy cN.length cF)) (fun _ hk => hk.2) (.int .i64 0)) (fun _ hk => trivial), by repeat (first | (with_reducible first | exact HI0.out | apply qr40 | apply qs40 | apply qv40 | apply qt40 | refine qg40 ?_ an.out _ | refine qg40 ?_ al.out _) | exact HI0.out), by repeat (first | (with_reducible first | exact HB.out | apply qI40 | apply qw40 | apply qF40 | refine qh40 ?_ (IsS71.ge HI0.out) | refine qh40 ?_ aJ.out | refine qh40 ?_ aK.out) | exact HB.out), by repeat (first | (with_reducible first | exact HK.out | apply qx40 | apply qH40 | apply qJ40 | apply qG40 | refine qm40 ?_ aG.out _ | refine qm40 ?_ aH.out _) | exact HK.out)⟩
end Go.Proofs.YtnednnnegofhkaaDoor.Pr
