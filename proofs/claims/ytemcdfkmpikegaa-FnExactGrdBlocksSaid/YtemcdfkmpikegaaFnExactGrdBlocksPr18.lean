/- A part of what the claim of 'FnExactGrdBlocks' leans on. -/
import Derived.Test.YtemcdfkmpikegaaFnExactGrdBlocksPr0
import Derived.Test.YtemcdfkmpikegaaFnExactGrdBlocksPr39
import Derived.Test.YtemcdfkmpikegaaFnExactGrdBlocksPr40
namespace Go.Proofs.Ytemcdfkmpikegaa.Pr
open Go.RowKit Go.Proofs.YtemcdfkmpikegaaW.PrintWords Go.Proofs.YtemcdfkmpikegaaW.PrintLast Go.Proofs.YtemcdfkmpikegaaW.PrintMore
attribute [local go_sem] max2_int min2_int max_two min_two max_three min_three max_four min_four
set_option linter.unusedVariables false
set_option linter.unusedSimpArgs false
mutual
def spec_GrdOk.j0 : Nat → Bool → Int → Int → List (S65) → Option (Bool)
  | 0, _, _, _, _ => none
  | k + 1, x20, x298000, x298001, x298002 => if x20 = true then (some false) else (spec_GrdOk.l0 k 0 x298000 x298001 x298002)
def spec_GrdOk.l0 : Nat → Int → Int → Int → List (S65) → Option (Bool)
  | 0, _, _, _, _ => none
  | k + 1, x3, x298000, x298001, x298002 => if x3 < (x298002.length : Int) then (if 0 ≤ x3 then ((spec_l1In.f ((rd_T65 x298002 x3).f0) 0 (wrap64 (x298000 - 1))).bind fun t302 => (if t302 = true then ((spec_l1In.f ((rd_T65 x298002 x3).f1) 0 (wrap64 (x298001 - 1))).bind fun t303 => (if t303 = true then ((spec_l1In.f ((rd_T65 x298002 x3).f2) 1 (wrap64 (x298000 - ((rd_T65 x298002 x3).f0)))).bind fun t304 => (if t304 = true then ((spec_l1In.f ((rd_T65 x298002 x3).f3) 1 (wrap64 (x298001 - ((rd_T65 x298002 x3).f1)))).bind fun t305 => (if t305 = true then ((spec_l1In.f ((rd_T65 x298002 x3).f4) 0 4).bind fun t306 => (if t306 = true then (if x3 ≤ (x298002.length : Int) then ((spec_l3Free.f k (x298002.take (x3 : Int).toNat) ((rd_T65 x298002 x3).f0) ((rd_T65 x298002 x3).f1) ((rd_T65 x298002 x3).f2) ((rd_T65 x298002 x3).f3) ((rd_T65 x298002 x3).f4)).bind fun t311 => (if t311 = true then (spec_GrdOk.l0 k (wrap64 (x3 + 1)) x298000 x298001 x298002) else (some false))) else (none)) else (some false))) else (some false))) else (some false))) else (some false))) else (some false))) else (none)) else (some true)
end
def spec_GrdOk.f (k : Nat) (a0_0 : Int) (a0_1 : Int) (l0_2 : List (S65)) : Option (Bool) := (spec_l1In.f a0_0 1 8).bind fun t298 => (if t298 = true then ((spec_l1In.f a0_1 1 94).bind fun t299 => (if t299 = true then (spec_GrdOk.j0 k (decide ((l0_2.length : Int) > 40)) a0_0 a0_1 l0_2) else (spec_GrdOk.j0 k true a0_0 a0_1 l0_2))) else (spec_GrdOk.j0 k true a0_0 a0_1 l0_2))
theorem spec_GrdOk.mono_l : ∀ k, (∀ y0 y1 y2 y3, LeO (spec_GrdOk.j0 k y0 y1 y2 y3) (spec_GrdOk.j0 (k + 1) y0 y1 y2 y3)) ∧ (∀ y0 y1 y2 y3, LeO (spec_GrdOk.l0 k y0 y1 y2 y3) (spec_GrdOk.l0 (k + 1) y0 y1 y2 y3))
  | 0 => ⟨fun _ _ _ _ r h => by simp [spec_GrdOk.j0] at h, fun _ _ _ _ r h => by simp [spec_GrdOk.l0] at h⟩
  | k + 1 => by
    obtain ⟨ih0, ih1⟩ := spec_GrdOk.mono_l k
    refine ⟨?_, ?_⟩
    · intro y0 y1 y2 y3
      unfold spec_GrdOk.j0
      repeat' first
      | (with_reducible exact ih0 _ _ _ _)
      | (with_reducible exact ih1 _ _ _ _)
      | (with_reducible exact spec_l3Free.mono _ _ _ _ _ _ _)
      | (with_reducible exact LeO.refl _)
      | (with_reducible exact LeO.none _)
      | (with_reducible refine LeO.ite ?_ ?_)
      | (with_reducible refine LeO.bind ?_ (fun _ => ?_))
      | exact ih0 _ _ _ _
      | exact ih1 _ _ _ _
      | exact spec_l3Free.mono _ _ _ _ _ _ _
      | exact LeO.none _
      | refine LeO.ite ?_ ?_
      | refine LeO.bind ?_ (fun _ => ?_)
    · intro y0 y1 y2 y3
      unfold spec_GrdOk.l0
      repeat' first
      | (with_reducible exact ih0 _ _ _ _)
      | (with_reducible exact ih1 _ _ _ _)
      | (with_reducible exact spec_l3Free.mono _ _ _ _ _ _ _)
      | (with_reducible exact LeO.refl _)
      | (with_reducible exact LeO.none _)
      | (with_reducible refine LeO.ite ?_ ?_)
      | (with_reducible refine LeO.bind ?_ (fun _ => ?_))
      | exact ih0 _ _ _ _
      | exact ih1 _ _ _ _
      | exact spec_l3Free.mono _ _ _ _ _ _ _
      | exact LeO.none _
      | refine LeO.ite ?_ ?_
      | refine LeO.bind ?_ (fun _ => ?_)
theorem spec_GrdOk.mono : ∀ a0 a1 a2 k, LeO (spec_GrdOk.f k a0 a1 a2) (spec_GrdOk.f (k + 1) a0 a1 a2) := by
  intro a0 a1 a2 k
  obtain ⟨ih0, ih1⟩ := spec_GrdOk.mono_l k
  unfold spec_GrdOk.f
  repeat' first
      | (with_reducible exact ih0 _ _ _ _)
      | (with_reducible exact ih1 _ _ _ _)
      | (with_reducible exact spec_l3Free.mono _ _ _ _ _ _ _)
      | (with_reducible exact LeO.refl _)
      | (with_reducible exact LeO.none _)
      | (with_reducible refine LeO.ite ?_ ?_)
      | (with_reducible refine LeO.bind ?_ (fun _ => ?_))
      | exact ih0 _ _ _ _
      | exact ih1 _ _ _ _
      | exact spec_l3Free.mono _ _ _ _ _ _ _
      | exact LeO.none _
      | refine LeO.ite ?_ ?_
      | refine LeO.bind ?_ (fun _ => ?_)
def spec_GrdOk.T7 : Bool × List (List Nat × List Nat) := (true, [([], []), ([0], [0]), ([], []), ([2], [2]), ([3], [3]), ([1, 4], [1, 4]), ([5], [5]), ([6, 5], [6]), ([7], [7]), ([8, 7], [7, 8]), ([7], [7]), ([10, 7], [7, 10]), ([11, 7], [7, 11]), ([9, 12, 7, 7], [7, 9, 12]), ([13, 7], [7, 13]), ([7, 14], [7, 14]), ([15, 13], [15]), ([16], [16]), ([17, 16], [16, 17]), ([16], [16]), ([19, 16], [16, 19]), ([16], [16]), ([21, 16], [16, 21]), ([20, 22, 16], [16, 20, 22]), ([18, 23, 16, 16], [16, 18, 23]), ([24, 16], [16, 24]), ([16, 25], [16, 25]), ([26, 24], [26]), ([27], [27]), ([28, 27], [27, 28]), ([27], [27]), ([30, 27], [27, 30]), ([27], [27]), ([32, 27], [27, 32]), ([31, 33, 27], [27, 31, 33]), ([29, 34, 27, 27], [27, 29, 34]), ([35, 27], [27, 35]), ([27, 36], [27, 36]), ([37, 35], [37]), ([38], [38]), ([39, 38], [38, 39]), ([40, 38, 38], [38, 40]), ([41, 38], [38, 41]), ([38, 42], [38, 42]), ([43, 41], [43]), ([44], [44]), ([45, 44], [44, 45]), ([44], [44]), ([46, 47, 44], [44, 46, 47]), ([44], [44]), ([48, 49, 44, 44], [44, 48, 49]), ([50, 44], [44, 50]), ([44, 51], [44, 51])])
def spec_GrdOk.B7 : List Nat := [0, 1, 0, 4, 12, 31, 63, 127, 255, 511, 255, 1279, 3327, 8191, 16383, 32767, 65535, 131071, 262143, 131071, 655359, 131071, 2228223, 7995391, 16777215, 33554431, 67108863, 134217727, 268435455, 536870911, 268435455, 1342177279, 268435455, 4563402751, 16374562815, 34359738367, 68719476735, 137438953471, 274877906943, 549755813887, 1099511627775, 2199023255551, 4398046511103, 8796093022207, 17592186044415, 35184372088831, 70368744177663, 35184372088831, 281474976710655, 35184372088831, 1125899906842623, 2251799813685247, 4503599627370495]
theorem spec_GrdOk.tab7 : rtab .any (opsOf Try.f18 7) = spec_GrdOk.T7 := by kernel_rfl
theorem spec_GrdOk.bits7 : waitsOk spec_GrdOk.T7.2 spec_GrdOk.B7 = true := by kernel_rfl
abbrev spec_GrdOk.mk0 : Array Bool := #[false, false, false, false, false, false, false, false, false, false, false, false, false, false, false, false, false, false, false, false, false, false, false, false, false, false, false, false, false, false, false, false, false, false, false, false, false, false, false, false, false, false, false, false, false, false, false, false, false, false, false, false, false]
abbrev spec_GrdOk.mk1 : Array Bool := #[true, false, false, false, false, false, false, false, false, false, false, false, false, false, false, false, false, false, false, false, false, false, false, false, false, false, false, false, false, false, false, false, false, false, false, false, false, false, false, false, false, false, false, false, false, false, false, false, false, false, false, false, false]
abbrev spec_GrdOk.mk2 : Array Bool := #[true, false, true, false, false, false, false, false, false, false, false, false, false, false, false, false, false, false, false, false, false, false, false, false, false, false, false, false, false, false, false, false, false, false, false, false, false, false, false, false, false, false, false, false, false, false, false, false, false, false, false, false, false]
abbrev spec_GrdOk.mk3 : Array Bool := #[true, true, true, false, false, false, false, false, false, false, false, false, false, false, false, false, false, false, false, false, false, false, false, false, false, false, false, false, false, false, false, false, false, false, false, false, false, false, false, false, false, false, false, false, false, false, false, false, false, false, false, false, false]
abbrev spec_GrdOk.mk4 : Array Bool := #[true, true, true, true, false, false, false, false, false, false, false, false, false, false, false, false, false, false, false, false, false, false, false, false, false, false, false, false, false, false, false, false, false, false, false, false, false, false, false, false, false, false, false, false, false, false, false, false, false, false, false, false, false]
abbrev spec_GrdOk.mk5 : Array Bool := #[true, true, true, true, true, false, false, false, false, false, false, false, false, false, false, false, false, false, false, false, false, false, false, false, false, false, false, false, false, false, false, false, false, false, false, false, false, false, false, false, false, false, false, false, false, false, false, false, false, false, false, false, false]
abbrev spec_GrdOk.mk6 : Array Bool := #[true, true, true, true, true, true, false, false, false, false, false, false, false, false, false, false, false, false, false, false, false, false, false, false, false, false, false, false, false, false, false, false, false, false, false, false, false, false, false, false, false, false, false, false, false, false, false, false, false, false, false, false, false]
abbrev spec_GrdOk.mk7 : Array Bool := #[true, true, true, true, true, true, true, false, false, false, false, false, false, false, false, false, false, false, false, false, false, false, false, false, false, false, false, false, false, false, false, false, false, false, false, false, false, false, false, false, false, false, false, false, false, false, false, false, false, false, false, false, false]
abbrev spec_GrdOk.mk8 : Array Bool := #[true, true, true, true, true, true, true, true, false, false, false, false, false, false, false, false, false, false, false, false, false, false, false, false, false, false, false, false, false, false, false, false, false, false, false, false, false, false, false, false, false, false, false, false, false, false, false, false, false, false, false, false, false]
abbrev spec_GrdOk.mk9 : Array Bool := #[true, true, true, true, true, true, true, true, true, false, false, false, false, false, false, false, false, false, false, false, false, false, false, false, false, false, false, false, false, false, false, false, false, false, false, false, false, false, false, false, false, false, false, false, false, false, false, false, false, false, false, false, false]
abbrev spec_GrdOk.mk10 : Array Bool := #[true, true, true, true, true, true, true, true, true, false, true, false, false, false, false, false, false, false, false, false, false, false, false, false, false, false, false, false, false, false, false, false, false, false, false, false, false, false, false, false, false, false, false, false, false, false, false, false, false, false, false, false, false]
abbrev spec_GrdOk.mk11 : Array Bool := #[true, true, true, true, true, true, true, true, true, true, true, false, false, false, false, false, false, false, false, false, false, false, false, false, false, false, false, false, false, false, false, false, false, false, false, false, false, false, false, false, false, false, false, false, false, false, false, false, false, false, false, false, false]
abbrev spec_GrdOk.mk12 : Array Bool := #[true, true, true, true, true, true, true, true, true, true, true, true, false, false, false, false, false, false, false, false, false, false, false, false, false, false, false, false, false, false, false, false, false, false, false, false, false, false, false, false, false, false, false, false, false, false, false, false, false, false, false, false, false]
abbrev spec_GrdOk.mk13 : Array Bool := #[true, true, true, true, true, true, true, true, true, true, true, true, true, false, false, false, false, false, false, false, false, false, false, false, false, false, false, false, false, false, false, false, false, false, false, false, false, false, false, false, false, false, false, false, false, false, false, false, false, false, false, false, false]
abbrev spec_GrdOk.mk14 : Array Bool := #[true, true, true, true, true, true, true, true, true, true, true, true, true, true, false, false, false, false, false, false, false, false, false, false, false, false, false, false, false, false, false, false, false, false, false, false, false, false, false, false, false, false, false, false, false, false, false, false, false, false, false, false, false]
abbrev spec_GrdOk.mk15 : Array Bool := #[true, true, true, true, true, true, true, true, true, true, true, true, true, true, true, false, false, false, false, false, false, false, false, false, false, false, false, false, false, false, false, false, false, false, false, false, false, false, false, false, false, false, false, false, false, false, false, false, false, false, false, false, false]
abbrev spec_GrdOk.mk16 : Array Bool := #[true, true, true, true, true, true, true, true, true, true, true, true, true, true, true, true, false, false, false, false, false, false, false, false, false, false, false, false, false, false, false, false, false, false, false, false, false, false, false, false, false, false, false, false, false, false, false, false, false, false, false, false, false]
abbrev spec_GrdOk.mk17 : Array Bool := #[true, true, true, true, true, true, true, true, true, true, true, true, true, true, true, true, true, false, false, false, false, false, false, false, false, false, false, false, false, false, false, false, false, false, false, false, false, false, false, false, false, false, false, false, false, false, false, false, false, false, false, false, false]
abbrev spec_GrdOk.mk18 : Array Bool := #[true, true, true, true, true, true, true, true, true, true, true, true, true, true, true, true, true, true, false, false, false, false, false, false, false, false, false, false, false, false, false, false, false, false, false, false, false, false, false, false, false, false, false, false, false, false, false, false, false, false, false, false, false]
abbrev spec_GrdOk.mk19 : Array Bool := #[true, true, true, true, true, true, true, true, true, true, true, true, true, true, true, true, true, true, false, true, false, false, false, false, false, false, false, false, false, false, false, false, false, false, false, false, false, false, false, false, false, false, false, false, false, false, false, false, false, false, false, false, false]
abbrev spec_GrdOk.mk20 : Array Bool := #[true, true, true, true, true, true, true, true, true, true, true, true, true, true, true, true, true, true, false, true, false, true, false, false, false, false, false, false, false, false, false, false, false, false, false, false, false, false, false, false, false, false, false, false, false, false, false, false, false, false, false, false, false]
abbrev spec_GrdOk.mk21 : Array Bool := #[true, true, true, true, true, true, true, true, true, true, true, true, true, true, true, true, true, true, true, true, false, true, false, false, false, false, false, false, false, false, false, false, false, false, false, false, false, false, false, false, false, false, false, false, false, false, false, false, false, false, false, false, false]
abbrev spec_GrdOk.mk22 : Array Bool := #[true, true, true, true, true, true, true, true, true, true, true, true, true, true, true, true, true, true, true, true, true, true, false, false, false, false, false, false, false, false, false, false, false, false, false, false, false, false, false, false, false, false, false, false, false, false, false, false, false, false, false, false, false]
abbrev spec_GrdOk.mk23 : Array Bool := #[true, true, true, true, true, true, true, true, true, true, true, true, true, true, true, true, true, true, true, true, true, true, true, false, false, false, false, false, false, false, false, false, false, false, false, false, false, false, false, false, false, false, false, false, false, false, false, false, false, false, false, false, false]
abbrev spec_GrdOk.mk24 : Array Bool := #[true, true, true, true, true, true, true, true, true, true, true, true, true, true, true, true, true, true, true, true, true, true, true, true, false, false, false, false, false, false, false, false, false, false, false, false, false, false, false, false, false, false, false, false, false, false, false, false, false, false, false, false, false]
abbrev spec_GrdOk.mk25 : Array Bool := #[true, true, true, true, true, true, true, true, true, true, true, true, true, true, true, true, true, true, true, true, true, true, true, true, true, false, false, false, false, false, false, false, false, false, false, false, false, false, false, false, false, false, false, false, false, false, false, false, false, false, false, false, false]
abbrev spec_GrdOk.mk26 : Array Bool := #[true, true, true, true, true, true, true, true, true, true, true, true, true, true, true, true, true, true, true, true, true, true, true, true, true, true, false, false, false, false, false, false, false, false, false, false, false, false, false, false, false, false, false, false, false, false, false, false, false, false, false, false, false]
abbrev spec_GrdOk.mk27 : Array Bool := #[true, true, true, true, true, true, true, true, true, true, true, true, true, true, true, true, true, true, true, true, true, true, true, true, true, true, true, false, false, false, false, false, false, false, false, false, false, false, false, false, false, false, false, false, false, false, false, false, false, false, false, false, false]
abbrev spec_GrdOk.mk28 : Array Bool := #[true, true, true, true, true, true, true, true, true, true, true, true, true, true, true, true, true, true, true, true, true, true, true, true, true, true, true, true, false, false, false, false, false, false, false, false, false, false, false, false, false, false, false, false, false, false, false, false, false, false, false, false, false]
abbrev spec_GrdOk.mk29 : Array Bool := #[true, true, true, true, true, true, true, true, true, true, true, true, true, true, true, true, true, true, true, true, true, true, true, true, true, true, true, true, true, false, false, false, false, false, false, false, false, false, false, false, false, false, false, false, false, false, false, false, false, false, false, false, false]
abbrev spec_GrdOk.mk30 : Array Bool := #[true, true, true, true, true, true, true, true, true, true, true, true, true, true, true, true, true, true, true, true, true, true, true, true, true, true, true, true, true, false, true, false, false, false, false, false, false, false, false, false, false, false, false, false, false, false, false, false, false, false, false, false, false]
abbrev spec_GrdOk.mk31 : Array Bool := #[true, true, true, true, true, true, true, true, true, true, true, true, true, true, true, true, true, true, true, true, true, true, true, true, true, true, true, true, true, false, true, false, true, false, false, false, false, false, false, false, false, false, false, false, false, false, false, false, false, false, false, false, false]
abbrev spec_GrdOk.mk32 : Array Bool := #[true, true, true, true, true, true, true, true, true, true, true, true, true, true, true, true, true, true, true, true, true, true, true, true, true, true, true, true, true, true, true, false, true, false, false, false, false, false, false, false, false, false, false, false, false, false, false, false, false, false, false, false, false]
abbrev spec_GrdOk.mk33 : Array Bool := #[true, true, true, true, true, true, true, true, true, true, true, true, true, true, true, true, true, true, true, true, true, true, true, true, true, true, true, true, true, true, true, true, true, false, false, false, false, false, false, false, false, false, false, false, false, false, false, false, false, false, false, false, false]
abbrev spec_GrdOk.mk34 : Array Bool := #[true, true, true, true, true, true, true, true, true, true, true, true, true, true, true, true, true, true, true, true, true, true, true, true, true, true, true, true, true, true, true, true, true, true, false, false, false, false, false, false, false, false, false, false, false, false, false, false, false, false, false, false, false]
abbrev spec_GrdOk.mk35 : Array Bool := #[true, true, true, true, true, true, true, true, true, true, true, true, true, true, true, true, true, true, true, true, true, true, true, true, true, true, true, true, true, true, true, true, true, true, true, false, false, false, false, false, false, false, false, false, false, false, false, false, false, false, false, false, false]
abbrev spec_GrdOk.mk36 : Array Bool := #[true, true, true, true, true, true, true, true, true, true, true, true, true, true, true, true, true, true, true, true, true, true, true, true, true, true, true, true, true, true, true, true, true, true, true, true, false, false, false, false, false, false, false, false, false, false, false, false, false, false, false, false, false]
abbrev spec_GrdOk.mk37 : Array Bool := #[true, true, true, true, true, true, true, true, true, true, true, true, true, true, true, true, true, true, true, true, true, true, true, true, true, true, true, true, true, true, true, true, true, true, true, true, true, false, false, false, false, false, false, false, false, false, false, false, false, false, false, false, false]
abbrev spec_GrdOk.mk38 : Array Bool := #[true, true, true, true, true, true, true, true, true, true, true, true, true, true, true, true, true, true, true, true, true, true, true, true, true, true, true, true, true, true, true, true, true, true, true, true, true, true, false, false, false, false, false, false, false, false, false, false, false, false, false, false, false]
abbrev spec_GrdOk.mk39 : Array Bool := #[true, true, true, true, true, true, true, true, true, true, true, true, true, true, true, true, true, true, true, true, true, true, true, true, true, true, true, true, true, true, true, true, true, true, true, true, true, true, true, false, false, false, false, false, false, false, false, false, false, false, false, false, false]
abbrev spec_GrdOk.mk40 : Array Bool := #[true, true, true, true, true, true, true, true, true, true, true, true, true, true, true, true, true, true, true, true, true, true, true, true, true, true, true, true, true, true, true, true, true, true, true, true, true, true, true, true, false, false, false, false, false, false, false, false, false, false, false, false, false]
abbrev spec_GrdOk.mk41 : Array Bool := #[true, true, true, true, true, true, true, true, true, true, true, true, true, true, true, true, true, true, true, true, true, true, true, true, true, true, true, true, true, true, true, true, true, true, true, true, true, true, true, true, true, false, false, false, false, false, false, false, false, false, false, false, false]
abbrev spec_GrdOk.mk42 : Array Bool := #[true, true, true, true, true, true, true, true, true, true, true, true, true, true, true, true, true, true, true, true, true, true, true, true, true, true, true, true, true, true, true, true, true, true, true, true, true, true, true, true, true, true, false, false, false, false, false, false, false, false, false, false, false]
abbrev spec_GrdOk.mk43 : Array Bool := #[true, true, true, true, true, true, true, true, true, true, true, true, true, true, true, true, true, true, true, true, true, true, true, true, true, true, true, true, true, true, true, true, true, true, true, true, true, true, true, true, true, true, true, false, false, false, false, false, false, false, false, false, false]
abbrev spec_GrdOk.mk44 : Array Bool := #[true, true, true, true, true, true, true, true, true, true, true, true, true, true, true, true, true, true, true, true, true, true, true, true, true, true, true, true, true, true, true, true, true, true, true, true, true, true, true, true, true, true, true, true, false, false, false, false, false, false, false, false, false]
abbrev spec_GrdOk.mk45 : Array Bool := #[true, true, true, true, true, true, true, true, true, true, true, true, true, true, true, true, true, true, true, true, true, true, true, true, true, true, true, true, true, true, true, true, true, true, true, true, true, true, true, true, true, true, true, true, true, false, false, false, false, false, false, false, false]
abbrev spec_GrdOk.mk46 : Array Bool := #[true, true, true, true, true, true, true, true, true, true, true, true, true, true, true, true, true, true, true, true, true, true, true, true, true, true, true, true, true, true, true, true, true, true, true, true, true, true, true, true, true, true, true, true, true, true, false, false, false, false, false, false, false]
abbrev spec_GrdOk.mk47 : Array Bool := #[true, true, true, true, true, true, true, true, true, true, true, true, true, true, true, true, true, true, true, true, true, true, true, true, true, true, true, true, true, true, true, true, true, true, true, true, true, true, true, true, true, true, true, true, true, true, false, true, false, false, false, false, false]
abbrev spec_GrdOk.mk48 : Array Bool := #[true, true, true, true, true, true, true, true, true, true, true, true, true, true, true, true, true, true, true, true, true, true, true, true, true, true, true, true, true, true, true, true, true, true, true, true, true, true, true, true, true, true, true, true, true, true, true, true, false, false, false, false, false]
abbrev spec_GrdOk.mk49 : Array Bool := #[true, true, true, true, true, true, true, true, true, true, true, true, true, true, true, true, true, true, true, true, true, true, true, true, true, true, true, true, true, true, true, true, true, true, true, true, true, true, true, true, true, true, true, true, true, true, true, true, true, false, false, false, false]
abbrev spec_GrdOk.mk50 : Array Bool := #[true, true, true, true, true, true, true, true, true, true, true, true, true, true, true, true, true, true, true, true, true, true, true, true, true, true, true, true, true, true, true, true, true, true, true, true, true, true, true, true, true, true, true, true, true, true, true, true, true, true, false, false, false]
abbrev spec_GrdOk.mk51 : Array Bool := #[true, true, true, true, true, true, true, true, true, true, true, true, true, true, true, true, true, true, true, true, true, true, true, true, true, true, true, true, true, true, true, true, true, true, true, true, true, true, true, true, true, true, true, true, true, true, true, true, true, true, true, false, false]
abbrev spec_GrdOk.mk52 : Array Bool := #[true, true, true, true, true, true, true, true, true, true, true, true, true, true, true, true, true, true, true, true, true, true, true, true, true, true, true, true, true, true, true, true, true, true, true, true, true, true, true, true, true, true, true, true, true, true, true, true, true, true, true, true, false]
abbrev spec_GrdOk.mk53 : Array Bool := #[true, true, true, true, true, true, true, true, true, true, true, true, true, true, true, true, true, true, true, true, true, true, true, true, true, true, true, true, true, true, true, true, true, true, true, true, true, true, true, true, true, true, true, true, true, true, true, true, true, true, true, true, true]
abbrev spec_GrdOk.mk54 : Array Bool := #[true, true, true, true, true, true, true, true, true, true, true, true, true, true, true, true, true, true, true, true, true, true, true, true, true, true, true, true, true, true, true, true, true, true, true, true, true, true, true, true, true, true, true, true, true, true, true, false, false, false, false, false, false]
abbrev spec_GrdOk.mk55 : Array Bool := #[true, true, true, true, true, true, true, true, true, true, true, true, true, true, true, true, true, true, true, true, true, true, true, true, true, true, true, true, true, true, false, false, false, false, false, false, false, false, false, false, false, false, false, false, false, false, false, false, false, false, false, false, false]
abbrev spec_GrdOk.mk56 : Array Bool := #[true, true, true, true, true, true, true, true, true, true, true, true, true, true, true, true, true, true, true, true, true, true, true, true, true, true, true, true, true, true, true, false, false, false, false, false, false, false, false, false, false, false, false, false, false, false, false, false, false, false, false, false, false]
abbrev spec_GrdOk.mk57 : Array Bool := #[true, true, true, true, true, true, true, true, true, true, true, true, true, true, true, true, true, true, true, true, true, true, true, true, true, true, true, true, true, true, true, true, false, false, false, false, false, false, false, false, false, false, false, false, false, false, false, false, false, false, false, false, false]
abbrev spec_GrdOk.mk58 : Array Bool := #[true, true, true, true, true, true, true, true, true, true, true, true, true, true, true, true, true, true, true, false, false, false, false, false, false, false, false, false, false, false, false, false, false, false, false, false, false, false, false, false, false, false, false, false, false, false, false, false, false, false, false, false, false]
abbrev spec_GrdOk.mk59 : Array Bool := #[true, true, true, true, true, true, true, true, true, true, true, true, true, true, true, true, true, true, true, true, false, false, false, false, false, false, false, false, false, false, false, false, false, false, false, false, false, false, false, false, false, false, false, false, false, false, false, false, false, false, false, false, false]
abbrev spec_GrdOk.mk60 : Array Bool := #[true, true, true, true, true, true, true, true, true, true, true, true, true, true, true, true, true, true, true, true, true, false, false, false, false, false, false, false, false, false, false, false, false, false, false, false, false, false, false, false, false, false, false, false, false, false, false, false, false, false, false, false, false]
abbrev spec_GrdOk.mk61 : Array Bool := #[true, true, true, true, true, true, true, true, true, true, false, false, false, false, false, false, false, false, false, false, false, false, false, false, false, false, false, false, false, false, false, false, false, false, false, false, false, false, false, false, false, false, false, false, false, false, false, false, false, false, false, false, false]
set_option maxHeartbeats 8000000 in
set_option maxRecDepth 100000 in
theorem spec_GrdOk.calls (k : Nat) (a0_0 : Int) (a0_1 : Int) (A0_2 : Option Addr) (c0_2 : Nat) (l0_2 : List (S65)) (r : Bool) (w : World) (hr0_2 : Kd.C k65 w A0_2 l0_2.length l0_2) (hc0_2 : l0_2.length ≤ c0_2) (h : spec_GrdOk.f k a0_0 a0_1 l0_2 = some r) :
  Calls Try.prog 18 #[.agg #[.int .i64 a0_0, .int .i64 a0_1, .slice A0_2 l0_2.length c0_2]] w fun e w' => e = .returned (.bool r) ∧ Below w.heap.size w w' := by
 have hu42 := Try.underlying42
 have hu65 := Try.underlying65
 have HR0_2 := Aside0.mk hr0_2
 have HC0_2 := Aside0.mk hc0_2
 clear hr0_2 hc0_2
 have HB := Aside0.mk (Below.refl w.heap.size w)
 have H : ((spec_l1In.f a0_0 1 8).bind fun t298 => (if t298 = true then ((spec_l1In.f a0_1 1 94).bind fun t299 => (if t299 = true then (spec_GrdOk.j0 k (decide ((l0_2.length : Int) > 40)) a0_0 a0_1 l0_2) else (spec_GrdOk.j0 k true a0_0 a0_1 l0_2))) else (spec_GrdOk.j0 k true a0_0 a0_1 l0_2))) = some r := h
 clear h
 have HC2 := Aside0.mk H
 clear H
 go_enter Try.func18, Try.ntmps18
 go_upto_region 1 with (first | ((with_reducible refine gate_dst (N := 1) rfl ?_); (try (refine gate_guard (by rfl) ?_; dsimp only)); refine box_event ?hg (N := 1) ?hd (cs := #[.int .i64 a0_0, .int .i64 a0_1, .slice A0_2 l0_2.length c0_2]) (t := 42) ?hr ?_; (case hd => rfl); (case hg => rfl); (case hr => first | (go_simp; done) | (go_simp; rfl)); intro gb297 hg w3 hbox hb; have n0_ := Aside0.mk (below_step (by repeat (first | (with_reducible first | exact HB.out | apply below_alloc | apply pw_below_drewN | apply below_drew1) | exact HB.out)) hb); have n1_ := Aside0.mk (hbox); have n2_ := Aside0.mk ((by rw [hg]; exact (below_size (by repeat (first | (with_reducible first | exact HB.out | apply below_alloc | apply pw_below_drewN | apply below_drew1) | exact HB.out))) : w.heap.size ≤ gb297)); have n3_ := Aside0.mk ((by rw [hg]; exact (below_size (by repeat (first | (with_reducible first | exact HB.out | apply below_alloc | apply pw_below_drewN | apply below_drew1) | exact HB.out))) : w.heap.size ≤ gb297)); clear HB; have HB := n0_; have BK297 := n1_; have GW297 := n2_; have GE297 := n3_; clear n0_ n1_ n2_ n3_; clear hb hbox hg))
 (try simp only [Act.put, qa_, qb_, qc_])
 go_cut [20] (fun v20 wc => ∃ (kq : Nat) (x20_1 : Bool), v20 = .bool x20_1 ∧ Aside0 (spec_GrdOk.j0 kq x20_1 a0_0 a0_1 l0_2 = some r) ∧ Aside0 (kq ≤ k) ∧ Aside0 (wc.heap[gb297]? = some (.cells #[.int .i64 a0_0, .int .i64 a0_1, (.slice A0_2 l0_2.length c0_2)] 42 (0, 0))) ∧ Aside0 (Below w.heap.size w wc))
 case first =>
  have H := HC2.out
  clear HC2
  replace H := Option.bind_eq_some_iff.mp H
  obtain ⟨t298, A40, H⟩ := H
  replace H : (if t298 = true then ((spec_l1In.f a0_1 1 94).bind fun t299 => (if t299 = true then (spec_GrdOk.j0 k (decide ((l0_2.length : Int) > 40)) a0_0 a0_1 l0_2) else (spec_GrdOk.j0 k true a0_0 a0_1 l0_2))) else (spec_GrdOk.j0 k true a0_0 a0_1 l0_2)) = some r := H
  have A4 := Aside0.mk A40
  clear A40
  by_cases c5 : t298 = true
  ·subst c5
   have H1 : ((spec_l1In.f a0_1 1 94).bind fun t299 => (if t299 = true then (spec_GrdOk.j0 k (decide ((l0_2.length : Int) > 40)) a0_0 a0_1 l0_2) else (spec_GrdOk.j0 k true a0_0 a0_1 l0_2))) = some r := by rw [if_pos rfl] at H; exact H
   clear H
   have H := H1
   clear H1
   replace H := Option.bind_eq_some_iff.mp H
   obtain ⟨t299, A60, H⟩ := H
   replace H : (if t299 = true then (spec_GrdOk.j0 k (decide ((l0_2.length : Int) > 40)) a0_0 a0_1 l0_2) else (spec_GrdOk.j0 k true a0_0 a0_1 l0_2)) = some r := H
   have A6 := Aside0.mk A60
   clear A60
   by_cases c7 : t299 = true
   ·subst c7
    have H1 : (spec_GrdOk.j0 k (decide ((l0_2.length : Int) > 40)) a0_0 a0_1 l0_2) = some r := by rw [if_pos rfl] at H; exact H
    clear H
    have H := H1
    clear H1
    have H' := Aside0.mk H
    clear H
    have hcz8_0 : w3.cell? ⟨gb297, 0, none⟩ = some (.int .i64 a0_0) := (blk_cell BK297.out 0).trans rfl
    have hcz8_1 : w3.cell? ⟨gb297, 1, none⟩ = some (.int .i64 a0_1) := (blk_cell BK297.out 1).trans rfl
    have hcz8_2 : w3.cell? ⟨gb297, 2, none⟩ = some (.slice A0_2 l0_2.length c0_2) := (blk_cell BK297.out 2).trans rfl
    have hfz8_0 := blk_frozen BK297.out 0
    have hfz8_1 := blk_frozen BK297.out 1
    have hfz8_2 := blk_frozen BK297.out 2
    go_wp2_with (first | ((with_reducible refine gate_callee (f := 39) rfl ?_); refine goesL_ (some 7) rfl rfl Try.func39 (by kernel_rfl) rfl #[.int .i64 a0_0, .int .i64 1, .int .i64 8] rfl (by (try simp only [List.map_toArray, List.map_cons, List.map_nil]); first | done | rfl | (simp only [List.length_drop, List.length_take]; rfl)) ?_; (with_reducible refine (spec_l1In.calls a0_0 1 8 true _ A4.out).mono ?_); rintro e w' ⟨rfl, ⟨nd, rfl⟩⟩; refine ⟨_, rfl, ?_⟩) | (go_at_call 39; (with_reducible refine (spec_l1In.calls a0_1 1 94 true _ A6.out).mono ?_); rintro e w' ⟨rfl, ⟨nd, rfl⟩⟩))
    go_meet
    case rel => exact ⟨_, (decide ((l0_2.length : Int) > 40)), (by first | rfl | (simp; done) | (simp [*]; done)), H', ⟨by first | omega | exact Nat.le_refl _⟩, ⟨by (with_reducible repeat (first | refine blk_drewN ?_ _ | refine blk_drew ?_ | refine blk_alloc ?_ _)); exact BK297.out⟩, ⟨by repeat (first | (with_reducible first | exact HB.out | apply below_alloc | apply pw_below_drewN | apply below_drew1 | refine below_set ?_ GE297.out) | exact HB.out)⟩⟩
   ·replace c7 := Bool.eq_false_iff.mpr c7
    subst c7
    have H1 : (spec_GrdOk.j0 k true a0_0 a0_1 l0_2) = some r := by rw [if_neg (show ¬ (false = true) by decide)] at H; exact H
    clear H
    have H := H1
    clear H1
    have H' := Aside0.mk H
    clear H
    have hcz9_0 : w3.cell? ⟨gb297, 0, none⟩ = some (.int .i64 a0_0) := (blk_cell BK297.out 0).trans rfl
    have hcz9_1 : w3.cell? ⟨gb297, 1, none⟩ = some (.int .i64 a0_1) := (blk_cell BK297.out 1).trans rfl
    have hcz9_2 : w3.cell? ⟨gb297, 2, none⟩ = some (.slice A0_2 l0_2.length c0_2) := (blk_cell BK297.out 2).trans rfl
    have hfz9_0 := blk_frozen BK297.out 0
    have hfz9_1 := blk_frozen BK297.out 1
    have hfz9_2 := blk_frozen BK297.out 2
    go_wp2_with (first | ((with_reducible refine gate_callee (f := 39) rfl ?_); refine goesL_ (some 7) rfl rfl Try.func39 (by kernel_rfl) rfl #[.int .i64 a0_0, .int .i64 1, .int .i64 8] rfl (by (try simp only [List.map_toArray, List.map_cons, List.map_nil]); first | done | rfl | (simp only [List.length_drop, List.length_take]; rfl)) ?_; (with_reducible refine (spec_l1In.calls a0_0 1 8 true _ A4.out).mono ?_); rintro e w' ⟨rfl, ⟨nd, rfl⟩⟩; refine ⟨_, rfl, ?_⟩) | (go_at_call 39; (with_reducible refine (spec_l1In.calls a0_1 1 94 false _ A6.out).mono ?_); rintro e w' ⟨rfl, ⟨nd, rfl⟩⟩))
    go_meet
    case rel => exact ⟨_, (true), (by first | rfl | (simp; done) | (simp [*]; done)), H', ⟨by first | omega | exact Nat.le_refl _⟩, ⟨by (with_reducible repeat (first | refine blk_drewN ?_ _ | refine blk_drew ?_ | refine blk_alloc ?_ _)); exact BK297.out⟩, ⟨by repeat (first | (with_reducible first | exact HB.out | apply below_alloc | apply pw_below_drewN | apply below_drew1 | refine below_set ?_ GE297.out) | exact HB.out)⟩⟩
  ·replace c5 := Bool.eq_false_iff.mpr c5
   subst c5
   have H1 : (spec_GrdOk.j0 k true a0_0 a0_1 l0_2) = some r := by rw [if_neg (show ¬ (false = true) by decide)] at H; exact H
   clear H
   have H := H1
   clear H1
   have H' := Aside0.mk H
   clear H
   have hcz10_0 : w3.cell? ⟨gb297, 0, none⟩ = some (.int .i64 a0_0) := (blk_cell BK297.out 0).trans rfl
   have hcz10_1 : w3.cell? ⟨gb297, 1, none⟩ = some (.int .i64 a0_1) := (blk_cell BK297.out 1).trans rfl
   have hcz10_2 : w3.cell? ⟨gb297, 2, none⟩ = some (.slice A0_2 l0_2.length c0_2) := (blk_cell BK297.out 2).trans rfl
   have hfz10_0 := blk_frozen BK297.out 0
   have hfz10_1 := blk_frozen BK297.out 1
   have hfz10_2 := blk_frozen BK297.out 2
   go_wp2_with (first | ((with_reducible refine gate_callee (f := 39) rfl ?_); refine goesL_ (some 7) rfl rfl Try.func39 (by kernel_rfl) rfl #[.int .i64 a0_0, .int .i64 1, .int .i64 8] rfl (by (try simp only [List.map_toArray, List.map_cons, List.map_nil]); first | done | rfl | (simp only [List.length_drop, List.length_take]; rfl)) ?_; (with_reducible refine (spec_l1In.calls a0_0 1 8 false _ A4.out).mono ?_); rintro e w' ⟨rfl, ⟨nd, rfl⟩⟩; refine ⟨_, rfl, ?_⟩))
   go_meet
   case rel => exact ⟨_, (true), (by first | rfl | (simp; done) | (simp [*]; done)), H', ⟨by first | omega | exact Nat.le_refl _⟩, ⟨by (with_reducible repeat (first | refine blk_drewN ?_ _ | refine blk_drew ?_ | refine blk_alloc ?_ _)); exact BK297.out⟩, ⟨by repeat (first | (with_reducible first | exact HB.out | apply below_alloc | apply pw_below_drewN | apply below_drew1 | refine below_set ?_ GE297.out) | exact HB.out)⟩⟩
 case rest =>
  clear HC2
  try clear c1
  try clear p2
  try clear c3
  try clear c5
  try clear c7
  try clear hcz10_0
  try clear hcz10_1
  try clear hcz10_2
  try clear hcz8_0
  try clear hcz8_1
  try clear hcz8_2
  try clear hcz9_0
  try clear hcz9_1
  try clear hcz9_2
  try clear hfz10_0
  try clear hfz10_1
  try clear hfz10_2
  try clear hfz8_0
  try clear hfz8_1
  try clear hfz8_2
  try clear hfz9_0
  try clear hfz9_1
  try clear hfz9_2
  obtain ⟨kq, x20_1, rfl, HA, HJ1, BK297, HB⟩ := hcut
  cases kq with
  | zero => exact absurd HA.out (by simp [spec_GrdOk.j0])
  | succ kj1 =>
   have H := HA.out
   clear HA
   simp only [spec_GrdOk.j0] at H
   by_cases c11 : x20_1 = true
   ·subst c11
    have H1 : (some false) = some r := by rw [if_pos rfl] at H; exact H
    clear H
    have H := H1
    clear H1
    obtain rfl := Option.some.inj H
    go_wp2
    go_ret
    exact ⟨by first | rfl | (simp [errW_none, errW_some] <;> rfl) | (simp [*, errW_none, errW_some] <;> rfl), by repeat (first | (with_reducible first | exact HB.out | apply below_alloc | apply pw_below_drewN | apply below_drew1 | refine below_set ?_ GE297.out) | exact HB.out)⟩
   ·replace c11 := Bool.eq_false_iff.mpr c11
    subst c11
    have H1 : (spec_GrdOk.l0 kj1 0 a0_0 a0_1 l0_2) = some r := by rw [if_neg (show ¬ (false = true) by decide)] at H; exact H
    clear H
    have H := H1
    clear H1
    have H' := Aside0.mk H
    clear H
    go_wp2
    go_loopg [3] kj1 (fun kq v3 w' => ∃ (x3_2 : Int), v3 = .int .i64 x3_2 ∧ Aside0 (spec_GrdOk.l0 kq x3_2 a0_0 a0_1 l0_2 = some r) ∧ Aside0 (kq ≤ kj1) ∧ Aside0 (w'.heap[gb297]? = some (.cells #[.int .i64 a0_0, .int .i64 a0_1, (.slice A0_2 l0_2.length c0_2)] 42 (0, 0))) ∧ Aside0 (Below w.heap.size w w'))
    case atStart => exact ⟨(0), (by first | rfl | (simp; done) | (simp [*]; done)), H', ⟨Nat.le_refl _⟩, ⟨by (with_reducible repeat (first | refine blk_drewN ?_ _ | refine blk_drew ?_ | refine blk_alloc ?_ _)); exact BK297.out⟩, ⟨by repeat (first | (with_reducible first | exact HB.out | apply below_alloc | apply pw_below_drewN | apply below_drew1 | refine below_set ?_ GE297.out) | exact HB.out)⟩⟩
    case round =>
     clear H'
     try clear c1
     try clear p2
     try clear c3
     try clear c5
     try clear c7
     try clear c11
     try clear hcz10_0
     try clear hcz10_1
     try clear hcz10_2
     try clear hcz8_0
     try clear hcz8_1
     try clear hcz8_2
     try clear hcz9_0
     try clear hcz9_1
     try clear hcz9_2
     try clear hfz10_0
     try clear hfz10_1
     try clear hfz10_2
     try clear hfz8_0
     try clear hfz8_1
     try clear hfz8_2
     try clear hfz9_0
     try clear hfz9_1
     try clear hfz9_2
     try clear p2
     obtain ⟨x3_2, rfl, HA, HK2, BK297, HB⟩ := hrel
     cases gk with
     | zero => exact absurd HA.out (by simp [spec_GrdOk.l0])
     | succ k2 =>
      have H := HA.out
      clear HA
      simp only [spec_GrdOk.l0] at H
      by_cases c12 : x3_2 < (l0_2.length : Int)
      ·rw [if_pos c12] at H
       have c12b0 : decide (x3_2 < (l0_2.length : Int)) = true := decide_eq_true c12
       clear c12
       by_cases c13 : 0 ≤ x3_2
       ·rw [if_pos c13] at H
        have c13b0 : decide (0 ≤ x3_2) = true := decide_eq_true c13
        clear c13
        replace H := Option.bind_eq_some_iff.mp H
        obtain ⟨t302, A140, H⟩ := H
        replace H : (if t302 = true then ((spec_l1In.f ((rd_T65 l0_2 x3_2).f1) 0 (wrap64 (a0_1 - 1))).bind fun t303 => (if t303 = true then ((spec_l1In.f ((rd_T65 l0_2 x3_2).f2) 1 (wrap64 (a0_0 - ((rd_T65 l0_2 x3_2).f0)))).bind fun t304 => (if t304 = true then ((spec_l1In.f ((rd_T65 l0_2 x3_2).f3) 1 (wrap64 (a0_1 - ((rd_T65 l0_2 x3_2).f1)))).bind fun t305 => (if t305 = true then ((spec_l1In.f ((rd_T65 l0_2 x3_2).f4) 0 4).bind fun t306 => (if t306 = true then (if x3_2 ≤ (l0_2.length : Int) then ((spec_l3Free.f k2 (l0_2.take (x3_2 : Int).toNat) ((rd_T65 l0_2 x3_2).f0) ((rd_T65 l0_2 x3_2).f1) ((rd_T65 l0_2 x3_2).f2) ((rd_T65 l0_2 x3_2).f3) ((rd_T65 l0_2 x3_2).f4)).bind fun t311 => (if t311 = true then (spec_GrdOk.l0 k2 (wrap64 (x3_2 + 1)) a0_0 a0_1 l0_2) else (some false))) else (none)) else (some false))) else (some false))) else (some false))) else (some false))) else (some false)) = some r := H
        have A14 := Aside0.mk A140
        clear A140
        by_cases c15 : t302 = true
        ·subst c15
         have H1 : ((spec_l1In.f ((rd_T65 l0_2 x3_2).f1) 0 (wrap64 (a0_1 - 1))).bind fun t303 => (if t303 = true then ((spec_l1In.f ((rd_T65 l0_2 x3_2).f2) 1 (wrap64 (a0_0 - ((rd_T65 l0_2 x3_2).f0)))).bind fun t304 => (if t304 = true then ((spec_l1In.f ((rd_T65 l0_2 x3_2).f3) 1 (wrap64 (a0_1 - ((rd_T65 l0_2 x3_2).f1)))).bind fun t305 => (if t305 = true then ((spec_l1In.f ((rd_T65 l0_2 x3_2).f4) 0 4).bind fun t306 => (if t306 = true then (if x3_2 ≤ (l0_2.length : Int) then ((spec_l3Free.f k2 (l0_2.take (x3_2 : Int).toNat) ((rd_T65 l0_2 x3_2).f0) ((rd_T65 l0_2 x3_2).f1) ((rd_T65 l0_2 x3_2).f2) ((rd_T65 l0_2 x3_2).f3) ((rd_T65 l0_2 x3_2).f4)).bind fun t311 => (if t311 = true then (spec_GrdOk.l0 k2 (wrap64 (x3_2 + 1)) a0_0 a0_1 l0_2) else (some false))) else (none)) else (some false))) else (some false))) else (some false))) else (some false))) = some r := by rw [if_pos rfl] at H; exact H
         clear H
         have H := H1
         clear H1
         replace H := Option.bind_eq_some_iff.mp H
         obtain ⟨t303, A160, H⟩ := H
         replace H : (if t303 = true then ((spec_l1In.f ((rd_T65 l0_2 x3_2).f2) 1 (wrap64 (a0_0 - ((rd_T65 l0_2 x3_2).f0)))).bind fun t304 => (if t304 = true then ((spec_l1In.f ((rd_T65 l0_2 x3_2).f3) 1 (wrap64 (a0_1 - ((rd_T65 l0_2 x3_2).f1)))).bind fun t305 => (if t305 = true then ((spec_l1In.f ((rd_T65 l0_2 x3_2).f4) 0 4).bind fun t306 => (if t306 = true then (if x3_2 ≤ (l0_2.length : Int) then ((spec_l3Free.f k2 (l0_2.take (x3_2 : Int).toNat) ((rd_T65 l0_2 x3_2).f0) ((rd_T65 l0_2 x3_2).f1) ((rd_T65 l0_2 x3_2).f2) ((rd_T65 l0_2 x3_2).f3) ((rd_T65 l0_2 x3_2).f4)).bind fun t311 => (if t311 = true then (spec_GrdOk.l0 k2 (wrap64 (x3_2 + 1)) a0_0 a0_1 l0_2) else (some false))) else (none)) else (some false))) else (some false))) else (some false))) else (some false)) = some r := H
         have A16 := Aside0.mk A160
         clear A160
         by_cases c17 : t303 = true
         ·subst c17
          have H1 : ((spec_l1In.f ((rd_T65 l0_2 x3_2).f2) 1 (wrap64 (a0_0 - ((rd_T65 l0_2 x3_2).f0)))).bind fun t304 => (if t304 = true then ((spec_l1In.f ((rd_T65 l0_2 x3_2).f3) 1 (wrap64 (a0_1 - ((rd_T65 l0_2 x3_2).f1)))).bind fun t305 => (if t305 = true then ((spec_l1In.f ((rd_T65 l0_2 x3_2).f4) 0 4).bind fun t306 => (if t306 = true then (if x3_2 ≤ (l0_2.length : Int) then ((spec_l3Free.f k2 (l0_2.take (x3_2 : Int).toNat) ((rd_T65 l0_2 x3_2).f0) ((rd_T65 l0_2 x3_2).f1) ((rd_T65 l0_2 x3_2).f2) ((rd_T65 l0_2 x3_2).f3) ((rd_T65 l0_2 x3_2).f4)).bind fun t311 => (if t311 = true then (spec_GrdOk.l0 k2 (wrap64 (x3_2 + 1)) a0_0 a0_1 l0_2) else (some false))) else (none)) else (some false))) else (some false))) else (some false))) = some r := by rw [if_pos rfl] at H; exact H
          clear H
          have H := H1
          clear H1
          replace H := Option.bind_eq_some_iff.mp H
          obtain ⟨t304, A180, H⟩ := H
          replace H : (if t304 = true then ((spec_l1In.f ((rd_T65 l0_2 x3_2).f3) 1 (wrap64 (a0_1 - ((rd_T65 l0_2 x3_2).f1)))).bind fun t305 => (if t305 = true then ((spec_l1In.f ((rd_T65 l0_2 x3_2).f4) 0 4).bind fun t306 => (if t306 = true then (if x3_2 ≤ (l0_2.length : Int) then ((spec_l3Free.f k2 (l0_2.take (x3_2 : Int).toNat) ((rd_T65 l0_2 x3_2).f0) ((rd_T65 l0_2 x3_2).f1) ((rd_T65 l0_2 x3_2).f2) ((rd_T65 l0_2 x3_2).f3) ((rd_T65 l0_2 x3_2).f4)).bind fun t311 => (if t311 = true then (spec_GrdOk.l0 k2 (wrap64 (x3_2 + 1)) a0_0 a0_1 l0_2) else (some false))) else (none)) else (some false))) else (some false))) else (some false)) = some r := H
          have A18 := Aside0.mk A180
          clear A180
          by_cases c19 : t304 = true
          ·subst c19
           have H1 : ((spec_l1In.f ((rd_T65 l0_2 x3_2).f3) 1 (wrap64 (a0_1 - ((rd_T65 l0_2 x3_2).f1)))).bind fun t305 => (if t305 = true then ((spec_l1In.f ((rd_T65 l0_2 x3_2).f4) 0 4).bind fun t306 => (if t306 = true then (if x3_2 ≤ (l0_2.length : Int) then ((spec_l3Free.f k2 (l0_2.take (x3_2 : Int).toNat) ((rd_T65 l0_2 x3_2).f0) ((rd_T65 l0_2 x3_2).f1) ((rd_T65 l0_2 x3_2).f2) ((rd_T65 l0_2 x3_2).f3) ((rd_T65 l0_2 x3_2).f4)).bind fun t311 => (if t311 = true then (spec_GrdOk.l0 k2 (wrap64 (x3_2 + 1)) a0_0 a0_1 l0_2) else (some false))) else (none)) else (some false))) else (some false))) = some r := by rw [if_pos rfl] at H; exact H
           clear H
           have H := H1
           clear H1
           replace H := Option.bind_eq_some_iff.mp H
           obtain ⟨t305, A200, H⟩ := H
           replace H : (if t305 = true then ((spec_l1In.f ((rd_T65 l0_2 x3_2).f4) 0 4).bind fun t306 => (if t306 = true then (if x3_2 ≤ (l0_2.length : Int) then ((spec_l3Free.f k2 (l0_2.take (x3_2 : Int).toNat) ((rd_T65 l0_2 x3_2).f0) ((rd_T65 l0_2 x3_2).f1) ((rd_T65 l0_2 x3_2).f2) ((rd_T65 l0_2 x3_2).f3) ((rd_T65 l0_2 x3_2).f4)).bind fun t311 => (if t311 = true then (spec_GrdOk.l0 k2 (wrap64 (x3_2 + 1)) a0_0 a0_1 l0_2) else (some false))) else (none)) else (some false))) else (some false)) = some r := H
           have A20 := Aside0.mk A200
           clear A200
           by_cases c21 : t305 = true
           ·subst c21
            have H1 : ((spec_l1In.f ((rd_T65 l0_2 x3_2).f4) 0 4).bind fun t306 => (if t306 = true then (if x3_2 ≤ (l0_2.length : Int) then ((spec_l3Free.f k2 (l0_2.take (x3_2 : Int).toNat) ((rd_T65 l0_2 x3_2).f0) ((rd_T65 l0_2 x3_2).f1) ((rd_T65 l0_2 x3_2).f2) ((rd_T65 l0_2 x3_2).f3) ((rd_T65 l0_2 x3_2).f4)).bind fun t311 => (if t311 = true then (spec_GrdOk.l0 k2 (wrap64 (x3_2 + 1)) a0_0 a0_1 l0_2) else (some false))) else (none)) else (some false))) = some r := by rw [if_pos rfl] at H; exact H
            clear H
            have H := H1
            clear H1
            replace H := Option.bind_eq_some_iff.mp H
            obtain ⟨t306, A220, H⟩ := H
            replace H : (if t306 = true then (if x3_2 ≤ (l0_2.length : Int) then ((spec_l3Free.f k2 (l0_2.take (x3_2 : Int).toNat) ((rd_T65 l0_2 x3_2).f0) ((rd_T65 l0_2 x3_2).f1) ((rd_T65 l0_2 x3_2).f2) ((rd_T65 l0_2 x3_2).f3) ((rd_T65 l0_2 x3_2).f4)).bind fun t311 => (if t311 = true then (spec_GrdOk.l0 k2 (wrap64 (x3_2 + 1)) a0_0 a0_1 l0_2) else (some false))) else (none)) else (some false)) = some r := H
            have A22 := Aside0.mk A220
            clear A220
            by_cases c23 : t306 = true
            ·subst c23
             have H1 : (if x3_2 ≤ (l0_2.length : Int) then ((spec_l3Free.f k2 (l0_2.take (x3_2 : Int).toNat) ((rd_T65 l0_2 x3_2).f0) ((rd_T65 l0_2 x3_2).f1) ((rd_T65 l0_2 x3_2).f2) ((rd_T65 l0_2 x3_2).f3) ((rd_T65 l0_2 x3_2).f4)).bind fun t311 => (if t311 = true then (spec_GrdOk.l0 k2 (wrap64 (x3_2 + 1)) a0_0 a0_1 l0_2) else (some false))) else (none)) = some r := by rw [if_pos rfl] at H; exact H
             clear H
             have H := H1
             clear H1
             have c24b0 := eq_true (of_decide_eq_true (by first | (with_reducible assumption) | assumption) : 0 ≤ x3_2)
             by_cases c25 : x3_2 ≤ (l0_2.length : Int)
             ·rw [if_pos c25] at H
              have c25b0 := eq_true c25
              have c25b1 : decide (x3_2 ≤ (l0_2.length : Int)) = true := decide_eq_true c25
              clear c25
              obtain ⟨y307, hy307⟩ : ∃ y_ : List (S65), y_ = (l0_2.take (x3_2 : Int).toNat) := ⟨_, rfl⟩
              replace H : ((spec_l3Free.f k2 y307 ((rd_T65 l0_2 x3_2).f0) ((rd_T65 l0_2 x3_2).f1) ((rd_T65 l0_2 x3_2).f2) ((rd_T65 l0_2 x3_2).f3) ((rd_T65 l0_2 x3_2).f4)).bind fun t311 => (if t311 = true then (spec_GrdOk.l0 k2 (wrap64 (x3_2 + 1)) a0_0 a0_1 l0_2) else (some false))) = some r := by first | (rw [hy307]; with_reducible exact H) | (have H2_ := (Option.bind_some _ _).symm.trans H; rw [hy307]; with_reducible exact H2_) | (have H2_ := (Option.bind_some _ _).symm.trans H; with_reducible exact H2_) | with_reducible exact H | (rw [hy307]; exact H) | exact H
              have Ny307 := Aside0.mk hy307
              clear hy307
              replace H := Option.bind_eq_some_iff.mp H
              obtain ⟨t311, A260, H⟩ := H
              replace H : (if t311 = true then (spec_GrdOk.l0 k2 (wrap64 (x3_2 + 1)) a0_0 a0_1 l0_2) else (some false)) = some r := H
              have A26 := Aside0.mk A260
              clear A260
              by_cases c27 : t311 = true
              ·subst c27
               have H1 : (spec_GrdOk.l0 k2 (wrap64 (x3_2 + 1)) a0_0 a0_1 l0_2) = some r := by rw [if_pos rfl] at H; exact H
               clear H
               have H := H1
               clear H1
               have H' := Aside0.mk H
               clear H
               have hcz28_0 : wr.cell? ⟨gb297, 0, none⟩ = some (.int .i64 a0_0) := (blk_cell BK297.out 0).trans rfl
               have hcz28_1 : wr.cell? ⟨gb297, 1, none⟩ = some (.int .i64 a0_1) := (blk_cell BK297.out 1).trans rfl
               have hcz28_2 : wr.cell? ⟨gb297, 2, none⟩ = some (.slice A0_2 l0_2.length c0_2) := (blk_cell BK297.out 2).trans rfl
               have hfz28_0 := blk_frozen BK297.out 0
               have hfz28_1 := blk_frozen BK297.out 1
               have hfz28_2 := blk_frozen BK297.out 2
               have p300 : 0 ≤ (x3_2 : Int) := of_decide_eq_true (by first | (with_reducible assumption) | assumption)
               have q300 : x3_2 < (l0_2.length : Int) := of_decide_eq_true (by first | (with_reducible assumption) | assumption)
               obtain ⟨ad300, e300, hx300_0, hx300_1, hx300_2, hx300_3, hx300_4⟩ := at_T65 HR0_2.out x3_2 p300 q300
               cases e300
               replace hx300_0 := (HB.out.cell (World.block_lt_of_cell? w _ hx300_0)).trans hx300_0
               replace hx300_1 := (HB.out.cell (World.block_lt_of_cell? w _ hx300_1)).trans hx300_1
               replace hx300_2 := (HB.out.cell (World.block_lt_of_cell? w _ hx300_2)).trans hx300_2
               replace hx300_3 := (HB.out.cell (World.block_lt_of_cell? w _ hx300_3)).trans hx300_3
               replace hx300_4 := (HB.out.cell (World.block_lt_of_cell? w _ hx300_4)).trans hx300_4
               replace p300 := eq_true p300
               replace q300 := eq_true q300
               try go_wp2_with (first | ((with_reducible refine gate_dst (N := 4) rfl ?_); (try (refine gate_guard (by rfl) ?_; dsimp only)); refine box_event ?hg (N := 4) ?hd (cs := #[.int .i64 0, .int .i64 0, .int .i64 0, .int .i64 0, .int .i64 0]) (t := 65) ?hr ?_; (case hd => rfl); (case hg => rfl); (case hr => first | (go_simp; done) | (go_simp; rfl)); intro gb301 hg w29 hbox hb; have n0_ := Aside0.mk (blk_below (g := gb297) (o := .cells #[.int .i64 a0_0, .int .i64 a0_1, .slice (some ad300) l0_2.length c0_2] 42 (0, 0)) (by (with_reducible repeat (first | refine blk_drewN ?_ _ | refine blk_drew ?_ | refine blk_alloc ?_ _)); exact BK297.out) hb); have n1_ := Aside0.mk (below_step (by repeat (first | (with_reducible first | exact HB.out | apply below_alloc | apply pw_below_drewN | apply below_drew1 | refine below_set ?_ GE297.out) | exact HB.out)) hb); have n2_ := Aside0.mk (hbox); have n3_ := Aside0.mk ((by rw [hg]; exact (below_size (by repeat (first | (with_reducible first | exact HB.out | apply below_alloc | apply pw_below_drewN | apply below_drew1 | refine below_set ?_ GE297.out) | exact HB.out))) : w.heap.size ≤ gb301)); have n4_ := Aside0.mk ((by rw [hg]; exact (below_size (by repeat (first | (with_reducible first | exact HB.out | apply below_alloc | apply pw_below_drewN | apply below_drew1 | refine below_set ?_ GE297.out) | exact HB.out))) : w.heap.size ≤ gb301)); have n5_ := Aside0.mk ((by rw [hg]; exact Nat.ne_of_lt (blk_lt (g := gb297) (o := .cells #[.int .i64 a0_0, .int .i64 a0_1, .slice (some ad300) l0_2.length c0_2] 42 (0, 0)) (by (with_reducible repeat (first | refine blk_drewN ?_ _ | refine blk_drew ?_ | refine blk_alloc ?_ _)); exact BK297.out)) : gb297 ≠ gb301)); have n6_ := Aside0.mk ((by rw [hg]; exact Nat.ne_of_gt (blk_lt (g := gb297) (o := .cells #[.int .i64 a0_0, .int .i64 a0_1, .slice (some ad300) l0_2.length c0_2] 42 (0, 0)) (by (with_reducible repeat (first | refine blk_drewN ?_ _ | refine blk_drew ?_ | refine blk_alloc ?_ _)); exact BK297.out)) : gb301 ≠ gb297)); clear BK297; clear HB; have BK297 := n0_; have HB := n1_; have BK301 := n2_; have GW301 := n3_; have GE301 := n4_; have NB297_301 := n5_; have NB301_297 := n6_; clear n0_ n1_ n2_ n3_ n4_ n5_ n6_; clear hb hbox hg; have hnb30 := NB301_297.out; have hnc30 := NB297_301.out; have hcz31_0 : w29.cell? ⟨gb301, 0, none⟩ = some (.int .i64 0) := (blk_cell BK301.out 0).trans rfl; have hcz31_1 : w29.cell? ⟨gb301, 1, none⟩ = some (.int .i64 0) := (blk_cell BK301.out 1).trans rfl; have hcz31_2 : w29.cell? ⟨gb301, 2, none⟩ = some (.int .i64 0) := (blk_cell BK301.out 2).trans rfl; have hcz31_3 : w29.cell? ⟨gb301, 3, none⟩ = some (.int .i64 0) := (blk_cell BK301.out 3).trans rfl; have hcz31_4 : w29.cell? ⟨gb301, 4, none⟩ = some (.int .i64 0) := (blk_cell BK301.out 4).trans rfl; have hfz31_0 := blk_frozen BK301.out 0; have hfz31_1 := blk_frozen BK301.out 1; have hfz31_2 := blk_frozen BK301.out 2; have hfz31_3 := blk_frozen BK301.out 3; have hfz31_4 := blk_frozen BK301.out 4))
               have n0_ : Aside0 ((((((w29.setCell ⟨gb301, 0, none⟩ (.int .i64 ((rd_T65 l0_2 x3_2).f0))).setCell ⟨gb301, 1, none⟩ (.int .i64 ((rd_T65 l0_2 x3_2).f1))).setCell ⟨gb301, 2, none⟩ (.int .i64 ((rd_T65 l0_2 x3_2).f2))).setCell ⟨gb301, 3, none⟩ (.int .i64 ((rd_T65 l0_2 x3_2).f3))).setCell ⟨gb301, 4, none⟩ (.int .i64 ((rd_T65 l0_2 x3_2).f4))).heap[gb297]? = some (.cells #[.int .i64 a0_0, .int .i64 a0_1, .slice (some ad300) l0_2.length c0_2] 42 (0, 0))) := ⟨by (with_reducible repeat (first | refine blk_drewN ?_ _ | refine blk_drew ?_ | refine blk_alloc ?_ _)); refine blk_far ?_ NB297_301.out _; (with_reducible repeat (first | refine blk_drewN ?_ _ | refine blk_drew ?_ | refine blk_alloc ?_ _)); refine blk_far ?_ NB297_301.out _; (with_reducible repeat (first | refine blk_drewN ?_ _ | refine blk_drew ?_ | refine blk_alloc ?_ _)); refine blk_far ?_ NB297_301.out _; (with_reducible repeat (first | refine blk_drewN ?_ _ | refine blk_drew ?_ | refine blk_alloc ?_ _)); refine blk_far ?_ NB297_301.out _; (with_reducible repeat (first | refine blk_drewN ?_ _ | refine blk_drew ?_ | refine blk_alloc ?_ _)); refine blk_far ?_ NB297_301.out _; (with_reducible repeat (first | refine blk_drewN ?_ _ | refine blk_drew ?_ | refine blk_alloc ?_ _)); exact BK297.out⟩
               have n1_ : Aside0 ((((((w29.setCell ⟨gb301, 0, none⟩ (.int .i64 ((rd_T65 l0_2 x3_2).f0))).setCell ⟨gb301, 1, none⟩ (.int .i64 ((rd_T65 l0_2 x3_2).f1))).setCell ⟨gb301, 2, none⟩ (.int .i64 ((rd_T65 l0_2 x3_2).f2))).setCell ⟨gb301, 3, none⟩ (.int .i64 ((rd_T65 l0_2 x3_2).f3))).setCell ⟨gb301, 4, none⟩ (.int .i64 ((rd_T65 l0_2 x3_2).f4))).heap[gb301]? = some (.cells #[.int .i64 ((rd_T65 l0_2 x3_2).f0), .int .i64 ((rd_T65 l0_2 x3_2).f1), .int .i64 ((rd_T65 l0_2 x3_2).f2), .int .i64 ((rd_T65 l0_2 x3_2).f3), .int .i64 ((rd_T65 l0_2 x3_2).f4)] 65 (0, 0))) := ⟨by (with_reducible repeat (first | refine blk_drewN ?_ _ | refine blk_drew ?_ | refine blk_alloc ?_ _)); refine blk_put (cs := #[.int .i64 ((rd_T65 l0_2 x3_2).f0), .int .i64 ((rd_T65 l0_2 x3_2).f1), .int .i64 ((rd_T65 l0_2 x3_2).f2), .int .i64 ((rd_T65 l0_2 x3_2).f3), .int .i64 0]) ?_ 4 _ rfl; (with_reducible repeat (first | refine blk_drewN ?_ _ | refine blk_drew ?_ | refine blk_alloc ?_ _)); refine blk_put (cs := #[.int .i64 ((rd_T65 l0_2 x3_2).f0), .int .i64 ((rd_T65 l0_2 x3_2).f1), .int .i64 ((rd_T65 l0_2 x3_2).f2), .int .i64 0, .int .i64 0]) ?_ 3 _ rfl; (with_reducible repeat (first | refine blk_drewN ?_ _ | refine blk_drew ?_ | refine blk_alloc ?_ _)); refine blk_put (cs := #[.int .i64 ((rd_T65 l0_2 x3_2).f0), .int .i64 ((rd_T65 l0_2 x3_2).f1), .int .i64 0, .int .i64 0, .int .i64 0]) ?_ 2 _ rfl; (with_reducible repeat (first | refine blk_drewN ?_ _ | refine blk_drew ?_ | refine blk_alloc ?_ _)); refine blk_put (cs := #[.int .i64 ((rd_T65 l0_2 x3_2).f0), .int .i64 0, .int .i64 0, .int .i64 0, .int .i64 0]) ?_ 1 _ rfl; (with_reducible repeat (first | refine blk_drewN ?_ _ | refine blk_drew ?_ | refine blk_alloc ?_ _)); refine blk_put (cs := #[.int .i64 0, .int .i64 0, .int .i64 0, .int .i64 0, .int .i64 0]) ?_ 0 _ rfl; (with_reducible repeat (first | refine blk_drewN ?_ _ | refine blk_drew ?_ | refine blk_alloc ?_ _)); exact BK301.out⟩
               have n2_ : Aside0 (Below w.heap.size w (((((w29.setCell ⟨gb301, 0, none⟩ (.int .i64 ((rd_T65 l0_2 x3_2).f0))).setCell ⟨gb301, 1, none⟩ (.int .i64 ((rd_T65 l0_2 x3_2).f1))).setCell ⟨gb301, 2, none⟩ (.int .i64 ((rd_T65 l0_2 x3_2).f2))).setCell ⟨gb301, 3, none⟩ (.int .i64 ((rd_T65 l0_2 x3_2).f3))).setCell ⟨gb301, 4, none⟩ (.int .i64 ((rd_T65 l0_2 x3_2).f4)))) := ⟨by repeat (first | (with_reducible first | exact HB.out | apply below_alloc | apply pw_below_drewN | apply below_drew1 | refine below_set ?_ GE297.out | refine below_set ?_ GE301.out) | exact HB.out)⟩
               (try clear BK297)
               (try clear BK301)
               (try clear HB)
               generalize (((((w29.setCell ⟨gb301, 0, none⟩ (.int .i64 ((rd_T65 l0_2 x3_2).f0))).setCell ⟨gb301, 1, none⟩ (.int .i64 ((rd_T65 l0_2 x3_2).f1))).setCell ⟨gb301, 2, none⟩ (.int .i64 ((rd_T65 l0_2 x3_2).f2))).setCell ⟨gb301, 3, none⟩ (.int .i64 ((rd_T65 l0_2 x3_2).f3))).setCell ⟨gb301, 4, none⟩ (.int .i64 ((rd_T65 l0_2 x3_2).f4))) = w32 at n0_ n1_ n2_ ⊢
               have BK297 := n0_
               have BK301 := n1_
               have HB := n2_
               clear n0_ n1_ n2_
               have n0_ := Aside0.mk (blk_drew BK297.out)
               have n1_ := Aside0.mk (blk_drew BK301.out)
               have n2_ := Aside0.mk (below_drew1 HB.out)
               clear BK297
               clear BK301
               clear HB
               have BK297 := n0_
               have BK301 := n1_
               have HB := n2_
               clear n0_ n1_ n2_
               refine start_ (n := 53) (S := fun w' => w'.cell? ⟨gb301, 0, none⟩ = some (.int .i64 ((rd_T65 l0_2 x3_2).f0)) ∧ w'.cell? ⟨gb301, 1, none⟩ = some (.int .i64 ((rd_T65 l0_2 x3_2).f1)) ∧ w'.cell? ⟨gb301, 2, none⟩ = some (.int .i64 ((rd_T65 l0_2 x3_2).f2)) ∧ w'.cell? ⟨gb301, 3, none⟩ = some (.int .i64 ((rd_T65 l0_2 x3_2).f3)) ∧ w'.cell? ⟨gb301, 4, none⟩ = some (.int .i64 ((rd_T65 l0_2 x3_2).f4)) ∧ w'.cell? ⟨gb297, 0, none⟩ = some (.int .i64 a0_0) ∧ w'.cell? ⟨gb297, 1, none⟩ = some (.int .i64 a0_1) ∧ w'.cell? ⟨gb297, 2, none⟩ = some (.slice (some ad300) l0_2.length c0_2)) (ds := []) spec_GrdOk.mk0 (by kernel_rfl) rfl rfl ⟨(blk_cell BK301.out 0).trans rfl, (blk_cell BK301.out 1).trans rfl, (blk_cell BK301.out 2).trans rfl, (blk_cell BK301.out 3).trans rfl, (blk_cell BK301.out 4).trans rfl, (blk_cell BK297.out 0).trans rfl, (blk_cell BK297.out 1).trans rfl, (blk_cell BK297.out 2).trans rfl⟩ (fun hHeld => ?_); refine with_tabW spec_GrdOk.tab7 spec_GrdOk.bits7 (fun HT_ HW_ => ?_)
               generalize w32.drew = w33 at BK297 BK301 HB hHeld ⊢
               refine pure_ (i := 0) (N := some 33) (v := ?_) (a' := ?_) spec_GrdOk.mk1 rfl rfl (any_of HT_.out (by kernel_rfl)) (fun _ _ _ h => h) (Or.inl ⟨by rfl, ?_⟩) ?_ ?_
               rotate_left
               ·intro w'
                go_simp
                with_reducible rfl
               rotate_left
               ·simp only [Act.put, qa_, qb_, qc_, i64_w, i32_w]
                rfl
               refine pure_ (i := 2) (N := some 35) (v := ?_) (a' := ?_) spec_GrdOk.mk2 rfl rfl (any_of HT_.out (by kernel_rfl)) (fun _ _ _ h => h) (Or.inl ⟨by rfl, ?_⟩) ?_ ?_
               rotate_left
               ·intro w'
                go_simp
                with_reducible rfl
               rotate_left
               ·simp only [Act.put, qa_, qb_, qc_, i64_w, i32_w]
                rfl
               refine take_ (i := 1) (N := some 34) (v := ?_) (a' := ?_) spec_GrdOk.mk3 rfl rfl (take_ofW HT_.out HW_.out (by kernel_rfl)) (fun _ _ _ h => h) (Or.inl ⟨by rfl, ?_⟩) hHeld ?_ ?_
               rotate_left
               ·rintro w' ⟨s0, s1, s2, s3, s4, s5, s6, s7⟩
                go_simp
                with_reducible rfl
               rotate_left
               ·simp only [Act.put, qa_, qb_, qc_, i64_w, i32_w]
                rfl
               refine take_ (i := 3) (N := some 36) (v := ?_) (a' := ?_) spec_GrdOk.mk4 rfl rfl (take_ofW HT_.out HW_.out (by kernel_rfl)) (fun _ _ _ h => h) (Or.inl ⟨by rfl, ?_⟩) hHeld ?_ ?_
               rotate_left
               ·rintro w' ⟨s0, s1, s2, s3, s4, s5, s6, s7⟩
                go_simp
                with_reducible rfl
               rotate_left
               ·simp only [Act.put, qa_, qb_, qc_, i64_w, i32_w]
                rfl
               refine pure_ (i := 4) (N := some 37) (v := ?_) (a' := ?_) spec_GrdOk.mk5 rfl rfl (any_of HT_.out (by kernel_rfl)) (fun _ _ _ h => h) (Or.inl ⟨by rfl, ?_⟩) ?_ ?_
               rotate_left
               ·intro w'
                go_simp
                with_reducible rfl
               rotate_left
               ·simp only [Act.put, qa_, qb_, qc_, i64_w, i32_w]
                rfl
               refine one_ (i := 5) (N := some 38) spec_GrdOk.mk6 rfl rfl (one_of HT_.out (by kernel_rfl)) (by decide) (fun K hK => ?_)
               refine goes_ Try.func39 (by kernel_rfl) rfl #[.int .i64 ((rd_T65 l0_2 x3_2).f0), .int .i64 0, .int .i64 (wrap64 (a0_0 - 1))] (by rfl) rfl rfl (by (try simp only [List.map_toArray, List.map_cons, List.map_nil]); first | done | rfl | (simp only [List.length_drop, List.length_take]; rfl)) ?_
               with_reducible refine (spec_l1In.calls ((rd_T65 l0_2 x3_2).f0) 0 (wrap64 (a0_0 - 1)) true _ A14.out).mono ?_
               rintro e w' ⟨rfl, ⟨nd, rfl⟩⟩
               refine ⟨_, rfl, ?_⟩
               refine hK.out _ _ ⟨(blk_cell BK301.out 0).trans rfl, (blk_cell BK301.out 1).trans rfl, (blk_cell BK301.out 2).trans rfl, (blk_cell BK301.out 3).trans rfl, (blk_cell BK301.out 4).trans rfl, (blk_cell BK297.out 0).trans rfl, (blk_cell BK297.out 1).trans rfl, (blk_cell BK297.out 2).trans rfl⟩ (fun hHeld => ?_)
               clear hK K
               refine norm_ (a' := ?_) ?_ ?_
               rotate_left
               ·show Act.put _ (some 38) _ = _
                simp only [Act.put, qa_, qb_, qc_, i64_w, i32_w]
                rfl
               refine pure_ (i := 6) (N := some 39) (v := ?_) (a' := ?_) spec_GrdOk.mk7 rfl rfl (any_of HT_.out (by kernel_rfl)) (fun _ _ _ h => h) (Or.inl ⟨by rfl, ?_⟩) ?_ ?_
               rotate_left
               ·intro w'
                go_simp
                with_reducible rfl
               rotate_left
               ·simp only [Act.put, qa_, qb_, qc_, i64_w, i32_w]
                rfl
               refine pure_ (i := 7) (N := some 40) (v := ?_) (a' := ?_) spec_GrdOk.mk8 rfl rfl (any_of HT_.out (by kernel_rfl)) (fun _ _ _ h => h) (Or.inl ⟨by rfl, ?_⟩) ?_ ?_
               rotate_left
               ·intro w'
                go_simp
                with_reducible rfl
               rotate_left
               ·simp only [Act.put, qa_, qb_, qc_, i64_w, i32_w]
                rfl
               refine pure_ (i := 8) (N := some 41) (v := ?_) (a' := ?_) spec_GrdOk.mk9 rfl rfl (any_of HT_.out (by kernel_rfl)) (fun _ _ _ h => h) (Or.inl ⟨by rfl, ?_⟩) ?_ ?_
               rotate_left
               ·intro w'
                go_simp
                with_reducible rfl
               rotate_left
               ·simp only [Act.put, qa_, qb_, qc_, i64_w, i32_w]
                rfl
               refine pure_ (i := 10) (N := some 43) (v := ?_) (a' := ?_) spec_GrdOk.mk10 rfl rfl (any_of HT_.out (by kernel_rfl)) (fun _ _ _ h => h) (Or.inl ⟨by rfl, ?_⟩) ?_ ?_
               rotate_left
               ·intro w'
                go_simp
                with_reducible rfl
               rotate_left
               ·simp only [Act.put, qa_, qb_, qc_, i64_w, i32_w]
                rfl
               refine take_ (i := 9) (N := some 42) (v := ?_) (a' := ?_) spec_GrdOk.mk11 rfl rfl (take_ofW HT_.out HW_.out (by kernel_rfl)) (fun _ _ _ h => h) (Or.inl ⟨by rfl, ?_⟩) hHeld ?_ ?_
               rotate_left
               ·rintro w' ⟨s0, s1, s2, s3, s4, s5, s6, s7⟩
                go_simp
                with_reducible rfl
               rotate_left
               ·simp only [Act.put, qa_, qb_, qc_, i64_w, i32_w]
                rfl
               refine take_ (i := 11) (N := some 44) (v := ?_) (a' := ?_) spec_GrdOk.mk12 rfl rfl (take_ofW HT_.out HW_.out (by kernel_rfl)) (fun _ _ _ h => h) (Or.inl ⟨by rfl, ?_⟩) hHeld ?_ ?_
               rotate_left
               ·rintro w' ⟨s0, s1, s2, s3, s4, s5, s6, s7⟩
                go_simp
                with_reducible rfl
               rotate_left
               ·simp only [Act.put, qa_, qb_, qc_, i64_w, i32_w]
                rfl
               refine pure_ (i := 12) (N := some 45) (v := ?_) (a' := ?_) spec_GrdOk.mk13 rfl rfl (any_of HT_.out (by kernel_rfl)) (fun _ _ _ h => h) (Or.inl ⟨by rfl, ?_⟩) ?_ ?_
               rotate_left
               ·intro w'
                go_simp
                with_reducible rfl
               rotate_left
               ·simp only [Act.put, qa_, qb_, qc_, i64_w, i32_w]
                rfl
               refine one_ (i := 13) (N := some 46) spec_GrdOk.mk14 rfl rfl (one_of HT_.out (by kernel_rfl)) (by decide) (fun K hK => ?_)
               refine goes_ Try.func39 (by kernel_rfl) rfl #[.int .i64 ((rd_T65 l0_2 x3_2).f1), .int .i64 0, .int .i64 (wrap64 (a0_1 - 1))] (by rfl) rfl rfl (by (try simp only [List.map_toArray, List.map_cons, List.map_nil]); first | done | rfl | (simp only [List.length_drop, List.length_take]; rfl)) ?_
               with_reducible refine (spec_l1In.calls ((rd_T65 l0_2 x3_2).f1) 0 (wrap64 (a0_1 - 1)) true _ A16.out).mono ?_
               rintro e w' ⟨rfl, ⟨nd, rfl⟩⟩
               refine ⟨_, rfl, ?_⟩
               refine hK.out _ _ ⟨(blk_cell BK301.out 0).trans rfl, (blk_cell BK301.out 1).trans rfl, (blk_cell BK301.out 2).trans rfl, (blk_cell BK301.out 3).trans rfl, (blk_cell BK301.out 4).trans rfl, (blk_cell BK297.out 0).trans rfl, (blk_cell BK297.out 1).trans rfl, (blk_cell BK297.out 2).trans rfl⟩ (fun hHeld => ?_)
               clear hK K
               refine norm_ (a' := ?_) ?_ ?_
               rotate_left
               ·show Act.put _ (some 46) _ = _
                simp only [Act.put, qa_, qb_, qc_, i64_w, i32_w]
                rfl
               refine pure_ (i := 14) (N := some 47) (v := ?_) (a' := ?_) spec_GrdOk.mk15 rfl rfl (any_of HT_.out (by kernel_rfl)) (fun _ _ _ h => h) (Or.inl ⟨by rfl, ?_⟩) ?_ ?_
               rotate_left
               ·intro w'
                go_simp
                with_reducible rfl
               rotate_left
               ·simp only [Act.put, qa_, qb_, qc_, i64_w, i32_w]
                rfl
               refine pure_ (i := 15) (N := some 48) (v := ?_) (a' := ?_) spec_GrdOk.mk16 rfl rfl (any_of HT_.out (by kernel_rfl)) (fun _ _ _ h => h) (Or.inl ⟨by rfl, ?_⟩) ?_ ?_
               rotate_left
               ·intro w'
                go_simp
                with_reducible rfl
               rotate_left
               ·simp only [Act.put, qa_, qb_, qc_, i64_w, i32_w]
                rfl
               refine pure_ (i := 16) (N := some 49) (v := ?_) (a' := ?_) spec_GrdOk.mk17 rfl rfl (any_of HT_.out (by kernel_rfl)) (fun _ _ _ h => h) (Or.inl ⟨by rfl, ?_⟩) ?_ ?_
               rotate_left
               ·intro w'
                go_simp
                with_reducible rfl
               rotate_left
               ·simp only [Act.put, qa_, qb_, qc_, i64_w, i32_w]
                rfl
               refine pure_ (i := 17) (N := some 50) (v := ?_) (a' := ?_) spec_GrdOk.mk18 rfl rfl (any_of HT_.out (by kernel_rfl)) (fun _ _ _ h => h) (Or.inl ⟨by rfl, ?_⟩) ?_ ?_
               rotate_left
               ·intro w'
                go_simp
                with_reducible rfl
               rotate_left
               ·simp only [Act.put, qa_, qb_, qc_, i64_w, i32_w]
                rfl
               refine pure_ (i := 19) (N := some 52) (v := ?_) (a' := ?_) spec_GrdOk.mk19 rfl rfl (any_of HT_.out (by kernel_rfl)) (fun _ _ _ h => h) (Or.inl ⟨by rfl, ?_⟩) ?_ ?_
               rotate_left
               ·intro w'
                go_simp
                with_reducible rfl
               rotate_left
               ·simp only [Act.put, qa_, qb_, qc_, i64_w, i32_w]
                rfl
               refine pure_ (i := 21) (N := some 54) (v := ?_) (a' := ?_) spec_GrdOk.mk20 rfl rfl (any_of HT_.out (by kernel_rfl)) (fun _ _ _ h => h) (Or.inl ⟨by rfl, ?_⟩) ?_ ?_
               rotate_left
               ·intro w'
                go_simp
                with_reducible rfl
               rotate_left
               ·simp only [Act.put, qa_, qb_, qc_, i64_w, i32_w]
                rfl
               refine take_ (i := 18) (N := some 51) (v := ?_) (a' := ?_) spec_GrdOk.mk21 rfl rfl (take_ofW HT_.out HW_.out (by kernel_rfl)) (fun _ _ _ h => h) (Or.inl ⟨by rfl, ?_⟩) hHeld ?_ ?_
               rotate_left
               ·rintro w' ⟨s0, s1, s2, s3, s4, s5, s6, s7⟩
                go_simp
                with_reducible rfl
               rotate_left
               ·simp only [Act.put, qa_, qb_, qc_, i64_w, i32_w]
                rfl
               refine take_ (i := 20) (N := some 53) (v := ?_) (a' := ?_) spec_GrdOk.mk22 rfl rfl (take_ofW HT_.out HW_.out (by kernel_rfl)) (fun _ _ _ h => h) (Or.inl ⟨by rfl, ?_⟩) hHeld ?_ ?_
               rotate_left
               ·rintro w' ⟨s0, s1, s2, s3, s4, s5, s6, s7⟩
                go_simp
                with_reducible rfl
               rotate_left
               ·simp only [Act.put, qa_, qb_, qc_, i64_w, i32_w]
                rfl
               refine take_ (i := 22) (N := some 55) (v := ?_) (a' := ?_) spec_GrdOk.mk23 rfl rfl (take_ofW HT_.out HW_.out (by kernel_rfl)) (fun _ _ _ h => h) (Or.inl ⟨by rfl, ?_⟩) hHeld ?_ ?_
               rotate_left
               ·rintro w' ⟨s0, s1, s2, s3, s4, s5, s6, s7⟩
                go_simp
                with_reducible rfl
               rotate_left
               ·simp only [Act.put, qa_, qb_, qc_, i64_w, i32_w]
                rfl
               refine pure_ (i := 23) (N := some 56) (v := ?_) (a' := ?_) spec_GrdOk.mk24 rfl rfl (any_of HT_.out (by kernel_rfl)) (fun _ _ _ h => h) (Or.inl ⟨by rfl, ?_⟩) ?_ ?_
               rotate_left
               ·intro w'
                go_simp
                with_reducible rfl
               rotate_left
               ·simp only [Act.put, qa_, qb_, qc_, i64_w, i32_w]
                rfl
               refine one_ (i := 24) (N := some 57) spec_GrdOk.mk25 rfl rfl (one_of HT_.out (by kernel_rfl)) (by decide) (fun K hK => ?_)
               refine goes_ Try.func39 (by kernel_rfl) rfl #[.int .i64 ((rd_T65 l0_2 x3_2).f2), .int .i64 1, .int .i64 (wrap64 (a0_0 - ((rd_T65 l0_2 x3_2).f0)))] (by rfl) rfl rfl (by (try simp only [List.map_toArray, List.map_cons, List.map_nil]); first | done | rfl | (simp only [List.length_drop, List.length_take]; rfl)) ?_
               with_reducible refine (spec_l1In.calls ((rd_T65 l0_2 x3_2).f2) 1 (wrap64 (a0_0 - ((rd_T65 l0_2 x3_2).f0))) true _ A18.out).mono ?_
               rintro e w' ⟨rfl, ⟨nd, rfl⟩⟩
               refine ⟨_, rfl, ?_⟩
               refine hK.out _ _ ⟨(blk_cell BK301.out 0).trans rfl, (blk_cell BK301.out 1).trans rfl, (blk_cell BK301.out 2).trans rfl, (blk_cell BK301.out 3).trans rfl, (blk_cell BK301.out 4).trans rfl, (blk_cell BK297.out 0).trans rfl, (blk_cell BK297.out 1).trans rfl, (blk_cell BK297.out 2).trans rfl⟩ (fun hHeld => ?_)
               clear hK K
               refine norm_ (a' := ?_) ?_ ?_
               rotate_left
               ·show Act.put _ (some 57) _ = _
                simp only [Act.put, qa_, qb_, qc_, i64_w, i32_w]
                rfl
               refine pure_ (i := 25) (N := some 58) (v := ?_) (a' := ?_) spec_GrdOk.mk26 rfl rfl (any_of HT_.out (by kernel_rfl)) (fun _ _ _ h => h) (Or.inl ⟨by rfl, ?_⟩) ?_ ?_
               rotate_left
               ·intro w'
                go_simp
                with_reducible rfl
               rotate_left
               ·simp only [Act.put, qa_, qb_, qc_, i64_w, i32_w]
                rfl
               refine pure_ (i := 26) (N := some 59) (v := ?_) (a' := ?_) spec_GrdOk.mk27 rfl rfl (any_of HT_.out (by kernel_rfl)) (fun _ _ _ h => h) (Or.inl ⟨by rfl, ?_⟩) ?_ ?_
               rotate_left
               ·intro w'
                go_simp
                with_reducible rfl
               rotate_left
               ·simp only [Act.put, qa_, qb_, qc_, i64_w, i32_w]
                rfl
               refine pure_ (i := 27) (N := some 60) (v := ?_) (a' := ?_) spec_GrdOk.mk28 rfl rfl (any_of HT_.out (by kernel_rfl)) (fun _ _ _ h => h) (Or.inl ⟨by rfl, ?_⟩) ?_ ?_
               rotate_left
               ·intro w'
                go_simp
                with_reducible rfl
               rotate_left
               ·simp only [Act.put, qa_, qb_, qc_, i64_w, i32_w]
                rfl
               refine pure_ (i := 28) (N := some 61) (v := ?_) (a' := ?_) spec_GrdOk.mk29 rfl rfl (any_of HT_.out (by kernel_rfl)) (fun _ _ _ h => h) (Or.inl ⟨by rfl, ?_⟩) ?_ ?_
               rotate_left
               ·intro w'
                go_simp
                with_reducible rfl
               rotate_left
               ·simp only [Act.put, qa_, qb_, qc_, i64_w, i32_w]
                rfl
               refine pure_ (i := 30) (N := some 63) (v := ?_) (a' := ?_) spec_GrdOk.mk30 rfl rfl (any_of HT_.out (by kernel_rfl)) (fun _ _ _ h => h) (Or.inl ⟨by rfl, ?_⟩) ?_ ?_
               rotate_left
               ·intro w'
                go_simp
                with_reducible rfl
               rotate_left
               ·simp only [Act.put, qa_, qb_, qc_, i64_w, i32_w]
                rfl
               refine pure_ (i := 32) (N := some 65) (v := ?_) (a' := ?_) spec_GrdOk.mk31 rfl rfl (any_of HT_.out (by kernel_rfl)) (fun _ _ _ h => h) (Or.inl ⟨by rfl, ?_⟩) ?_ ?_
               rotate_left
               ·intro w'
                go_simp
                with_reducible rfl
               rotate_left
               ·simp only [Act.put, qa_, qb_, qc_, i64_w, i32_w]
                rfl
               refine take_ (i := 29) (N := some 62) (v := ?_) (a' := ?_) spec_GrdOk.mk32 rfl rfl (take_ofW HT_.out HW_.out (by kernel_rfl)) (fun _ _ _ h => h) (Or.inl ⟨by rfl, ?_⟩) hHeld ?_ ?_
               rotate_left
               ·rintro w' ⟨s0, s1, s2, s3, s4, s5, s6, s7⟩
                go_simp
                with_reducible rfl
               rotate_left
               ·simp only [Act.put, qa_, qb_, qc_, i64_w, i32_w]
                rfl
               refine take_ (i := 31) (N := some 64) (v := ?_) (a' := ?_) spec_GrdOk.mk33 rfl rfl (take_ofW HT_.out HW_.out (by kernel_rfl)) (fun _ _ _ h => h) (Or.inl ⟨by rfl, ?_⟩) hHeld ?_ ?_
               rotate_left
               ·rintro w' ⟨s0, s1, s2, s3, s4, s5, s6, s7⟩
                go_simp
                with_reducible rfl
               rotate_left
               ·simp only [Act.put, qa_, qb_, qc_, i64_w, i32_w]
                rfl
               refine take_ (i := 33) (N := some 66) (v := ?_) (a' := ?_) spec_GrdOk.mk34 rfl rfl (take_ofW HT_.out HW_.out (by kernel_rfl)) (fun _ _ _ h => h) (Or.inl ⟨by rfl, ?_⟩) hHeld ?_ ?_
               rotate_left
               ·rintro w' ⟨s0, s1, s2, s3, s4, s5, s6, s7⟩
                go_simp
                with_reducible rfl
               rotate_left
               ·simp only [Act.put, qa_, qb_, qc_, i64_w, i32_w]
                rfl
               refine pure_ (i := 34) (N := some 67) (v := ?_) (a' := ?_) spec_GrdOk.mk35 rfl rfl (any_of HT_.out (by kernel_rfl)) (fun _ _ _ h => h) (Or.inl ⟨by rfl, ?_⟩) ?_ ?_
               rotate_left
               ·intro w'
                go_simp
                with_reducible rfl
               rotate_left
               ·simp only [Act.put, qa_, qb_, qc_, i64_w, i32_w]
                rfl
               refine one_ (i := 35) (N := some 68) spec_GrdOk.mk36 rfl rfl (one_of HT_.out (by kernel_rfl)) (by decide) (fun K hK => ?_)
               refine goes_ Try.func39 (by kernel_rfl) rfl #[.int .i64 ((rd_T65 l0_2 x3_2).f3), .int .i64 1, .int .i64 (wrap64 (a0_1 - ((rd_T65 l0_2 x3_2).f1)))] (by rfl) rfl rfl (by (try simp only [List.map_toArray, List.map_cons, List.map_nil]); first | done | rfl | (simp only [List.length_drop, List.length_take]; rfl)) ?_
               with_reducible refine (spec_l1In.calls ((rd_T65 l0_2 x3_2).f3) 1 (wrap64 (a0_1 - ((rd_T65 l0_2 x3_2).f1))) true _ A20.out).mono ?_
               rintro e w' ⟨rfl, ⟨nd, rfl⟩⟩
               refine ⟨_, rfl, ?_⟩
               refine hK.out _ _ ⟨(blk_cell BK301.out 0).trans rfl, (blk_cell BK301.out 1).trans rfl, (blk_cell BK301.out 2).trans rfl, (blk_cell BK301.out 3).trans rfl, (blk_cell BK301.out 4).trans rfl, (blk_cell BK297.out 0).trans rfl, (blk_cell BK297.out 1).trans rfl, (blk_cell BK297.out 2).trans rfl⟩ (fun hHeld => ?_)
               clear hK K
               refine norm_ (a' := ?_) ?_ ?_
               rotate_left
               ·show Act.put _ (some 68) _ = _
                simp only [Act.put, qa_, qb_, qc_, i64_w, i32_w]
                rfl
               refine pure_ (i := 36) (N := some 69) (v := ?_) (a' := ?_) spec_GrdOk.mk37 rfl rfl (any_of HT_.out (by kernel_rfl)) (fun _ _ _ h => h) (Or.inl ⟨by rfl, ?_⟩) ?_ ?_
               rotate_left
               ·intro w'
                go_simp
                with_reducible rfl
               rotate_left
               ·simp only [Act.put, qa_, qb_, qc_, i64_w, i32_w]
                rfl
               refine pure_ (i := 37) (N := some 70) (v := ?_) (a' := ?_) spec_GrdOk.mk38 rfl rfl (any_of HT_.out (by kernel_rfl)) (fun _ _ _ h => h) (Or.inl ⟨by rfl, ?_⟩) ?_ ?_
               rotate_left
               ·intro w'
                go_simp
                with_reducible rfl
               rotate_left
               ·simp only [Act.put, qa_, qb_, qc_, i64_w, i32_w]
                rfl
               refine pure_ (i := 38) (N := some 71) (v := ?_) (a' := ?_) spec_GrdOk.mk39 rfl rfl (any_of HT_.out (by kernel_rfl)) (fun _ _ _ h => h) (Or.inl ⟨by rfl, ?_⟩) ?_ ?_
               rotate_left
               ·intro w'
                go_simp
                with_reducible rfl
               rotate_left
               ·simp only [Act.put, qa_, qb_, qc_, i64_w, i32_w]
                rfl
               refine pure_ (i := 39) (N := some 72) (v := ?_) (a' := ?_) spec_GrdOk.mk40 rfl rfl (any_of HT_.out (by kernel_rfl)) (fun _ _ _ h => h) (Or.inl ⟨by rfl, ?_⟩) ?_ ?_
               rotate_left
               ·intro w'
                go_simp
                with_reducible rfl
               rotate_left
               ·simp only [Act.put, qa_, qb_, qc_, i64_w, i32_w]
                rfl
               refine take_ (i := 40) (N := some 73) (v := ?_) (a' := ?_) spec_GrdOk.mk41 rfl rfl (take_ofW HT_.out HW_.out (by kernel_rfl)) (fun _ _ _ h => h) (Or.inl ⟨by rfl, ?_⟩) hHeld ?_ ?_
               rotate_left
               ·rintro w' ⟨s0, s1, s2, s3, s4, s5, s6, s7⟩
                go_simp
                with_reducible rfl
               rotate_left
               ·simp only [Act.put, qa_, qb_, qc_, i64_w, i32_w]
                rfl
               refine one_ (i := 41) (N := some 74) spec_GrdOk.mk42 rfl rfl (one_of HT_.out (by kernel_rfl)) (by decide) (fun K hK => ?_)
               refine goes_ Try.func39 (by kernel_rfl) rfl #[.int .i64 ((rd_T65 l0_2 x3_2).f4), .int .i64 0, .int .i64 4] (by rfl) rfl rfl (by (try simp only [List.map_toArray, List.map_cons, List.map_nil]); first | done | rfl | (simp only [List.length_drop, List.length_take]; rfl)) ?_
               with_reducible refine (spec_l1In.calls ((rd_T65 l0_2 x3_2).f4) 0 4 true _ A22.out).mono ?_
               rintro e w' ⟨rfl, ⟨nd, rfl⟩⟩
               refine ⟨_, rfl, ?_⟩
               have q34 : (x3_2 : Int) ≤ ((l0_2.length : Int) : Int) := of_decide_eq_true (by first | (with_reducible assumption) | assumption)
               obtain ⟨i034, hi034, _, hsz34, _⟩ := info_parts info65
               have hroom34 : l0_2.length ≤ c0_2 := HC0_2.out
               have hC34 : Kd.C k65 _ (some ad300) l0_2.length l0_2 := HR0_2.out
               have hcut34 := cut_to (P := Try.prog) 40 65 .i64 Try.underlying40 hi034 (some ad300) l0_2.length c0_2 x3_2 (of_decide_eq_true (by first | (with_reducible assumption) | assumption)) q34 hroom34
               have hr34 := Kd.C_take (m := (x3_2 : Int).toNat) hC34 (by omega)
               have hy34 : y307.length = (x3_2 : Int).toNat := (by rw [Ny307.out, List.length_take]; omega)
               rw [← Ny307.out] at hr34
               rw [← hy34] at hcut34
               have HR310 := Aside0.mk hr34
               have HC310 := Aside0.mk (show y307.length ≤ c0_2 from by omega)
               clear hr34 hC34 hroom34 hi034 hsz34
               have KY34 := Aside0.mk hy34
               clear hy34
               replace q34 := eq_true q34
               refine hK.out _ _ ⟨(blk_cell BK301.out 0).trans rfl, (blk_cell BK301.out 1).trans rfl, (blk_cell BK301.out 2).trans rfl, (blk_cell BK301.out 3).trans rfl, (blk_cell BK301.out 4).trans rfl, (blk_cell BK297.out 0).trans rfl, (blk_cell BK297.out 1).trans rfl, (blk_cell BK297.out 2).trans rfl⟩ (fun hHeld => ?_)
               clear hK K
               refine norm_ (a' := ?_) ?_ ?_
               rotate_left
               ·show Act.put _ (some 74) _ = _
                simp only [Act.put, qa_, qb_, qc_, i64_w, i32_w]
                rfl
               refine pure_ (i := 42) (N := some 75) (v := ?_) (a' := ?_) spec_GrdOk.mk43 rfl rfl (any_of HT_.out (by kernel_rfl)) (fun _ _ _ h => h) (Or.inl ⟨by rfl, ?_⟩) ?_ ?_
               rotate_left
               ·intro w'
                go_simp
                with_reducible rfl
               rotate_left
               ·simp only [Act.put, qa_, qb_, qc_, i64_w, i32_w]
                rfl
               refine pure_ (i := 43) (N := some 76) (v := ?_) (a' := ?_) spec_GrdOk.mk44 rfl rfl (any_of HT_.out (by kernel_rfl)) (fun _ _ _ h => h) (Or.inl ⟨by rfl, ?_⟩) ?_ ?_
               rotate_left
               ·intro w'
                go_simp
                with_reducible rfl
               rotate_left
               ·simp only [Act.put, qa_, qb_, qc_, i64_w, i32_w]
                rfl
               refine pure_ (i := 44) (N := some 77) (v := ?_) (a' := ?_) spec_GrdOk.mk45 rfl rfl (any_of HT_.out (by kernel_rfl)) (fun _ _ _ h => h) (Or.inl ⟨by rfl, ?_⟩) ?_ ?_
               rotate_left
               ·intro w'
                go_simp
                with_reducible rfl
               rotate_left
               ·simp only [Act.put, qa_, qb_, qc_, i64_w, i32_w]
                rfl
               refine pure_ (i := 45) (N := some 78) (v := ?_) (a' := ?_) spec_GrdOk.mk46 rfl rfl (any_of HT_.out (by kernel_rfl)) (fun _ _ _ h => h) (Or.inl ⟨by rfl, ?_⟩) ?_ ?_
               rotate_left
               ·intro w'
                go_simp
                with_reducible rfl
               rotate_left
               ·simp only [Act.put, qa_, qb_, qc_, i64_w, i32_w]
                rfl
               refine pure_ (i := 47) (N := some 80) (v := ?_) (a' := ?_) spec_GrdOk.mk47 rfl rfl (any_of HT_.out (by kernel_rfl)) (fun _ _ _ h => h) (Or.inl ⟨by rfl, ?_⟩) ?_ ?_
               rotate_left
               ·intro w'
                go_simp
                with_reducible rfl
               rotate_left
               ·simp only [Act.put, qa_, qb_, qc_, i64_w, i32_w]
                rfl
               refine take_ (i := 46) (N := some 79) (v := ?_) (a' := ?_) spec_GrdOk.mk48 rfl rfl (take_ofW HT_.out HW_.out (by kernel_rfl)) (fun _ _ _ h => h) (Or.inl ⟨by rfl, ?_⟩) hHeld ?_ ?_
               rotate_left
               ·rintro w' ⟨s0, s1, s2, s3, s4, s5, s6, s7⟩
                go_simp
                with_reducible rfl
               rotate_left
               ·simp only [Act.put, qa_, qb_, qc_, i64_w, i32_w]
                rfl
               refine pure_ (i := 48) (N := some 81) (v := ?_) (a' := ?_) spec_GrdOk.mk49 rfl rfl (any_of HT_.out (by kernel_rfl)) (fun _ _ _ h => h) (Or.inl ⟨by rfl, ?_⟩) ?_ ?_
               rotate_left
               ·intro w'
                go_simp
                with_reducible rfl
               rotate_left
               ·simp only [Act.put, qa_, qb_, qc_, i64_w, i32_w]
                rfl
               refine take_ (i := 49) (N := some 82) (v := ?_) (a' := ?_) spec_GrdOk.mk50 rfl rfl (take_ofW HT_.out HW_.out (by kernel_rfl)) (fun _ _ _ h => h) (Or.inl ⟨by rfl, ?_⟩) hHeld ?_ ?_
               rotate_left
               ·rintro w' ⟨s0, s1, s2, s3, s4, s5, s6, s7⟩
                go_simp
                with_reducible rfl
               rotate_left
               ·simp only [Act.put, qa_, qb_, qc_, i64_w, i32_w]
                rfl
               refine one_ (i := 50) (N := some 83) spec_GrdOk.mk51 rfl rfl (one_of HT_.out (by kernel_rfl)) (by decide) (fun K hK => ?_)
               refine goes_ Try.func40 (by kernel_rfl) rfl #[.slice (some ad300) y307.length c0_2, .agg #[.int .i64 ((rd_T65 l0_2 x3_2).f0), .int .i64 ((rd_T65 l0_2 x3_2).f1), .int .i64 ((rd_T65 l0_2 x3_2).f2), .int .i64 ((rd_T65 l0_2 x3_2).f3), .int .i64 ((rd_T65 l0_2 x3_2).f4)]] (by rfl) rfl rfl (by (try simp only [List.map_toArray, List.map_cons, List.map_nil]); first | done | rfl | (simp only [List.length_drop, List.length_take]; rfl)) ?_
               with_reducible refine (spec_l3Free.calls k2 _ _ y307 ((rd_T65 l0_2 x3_2).f0) ((rd_T65 l0_2 x3_2).f1) ((rd_T65 l0_2 x3_2).f2) ((rd_T65 l0_2 x3_2).f3) ((rd_T65 l0_2 x3_2).f4) true _ ?side1 ?side2 A26.out).mono ?_
               (case side1 => repeat (first | exact (Kd.C_below HR310.out (by repeat (first | (with_reducible first | exact HB.out | apply below_alloc | apply pw_below_drewN | apply below_drew1 | refine below_set ?_ GE297.out | refine below_set ?_ GE301.out) | exact HB.out))) | (with_reducible refine Kd.C_alloc ?_ _) | (with_reducible refine Kd.C_drewN ?_ _) | (with_reducible refine Kd.C_drew ?_)))
               (case side2 => exact HC310.out)
               rintro e w35 ⟨rfl, hb⟩
               refine ⟨_, rfl, ?_⟩
               have n0_ := Aside0.mk (blk_below (g := gb297) (o := .cells #[.int .i64 a0_0, .int .i64 a0_1, .slice (some ad300) l0_2.length c0_2] 42 (0, 0)) (by (with_reducible repeat (first | refine blk_drewN ?_ _ | refine blk_drew ?_ | refine blk_alloc ?_ _)); exact BK297.out) hb)
               have n1_ := Aside0.mk (blk_below (g := gb301) (o := .cells #[.int .i64 ((rd_T65 l0_2 x3_2).f0), .int .i64 ((rd_T65 l0_2 x3_2).f1), .int .i64 ((rd_T65 l0_2 x3_2).f2), .int .i64 ((rd_T65 l0_2 x3_2).f3), .int .i64 ((rd_T65 l0_2 x3_2).f4)] 65 (0, 0)) (by (with_reducible repeat (first | refine blk_drewN ?_ _ | refine blk_drew ?_ | refine blk_alloc ?_ _)); exact BK301.out) hb)
               have n2_ := Aside0.mk (below_step (by repeat (first | (with_reducible first | exact HB.out | apply below_alloc | apply pw_below_drewN | apply below_drew1 | refine below_set ?_ GE297.out | refine below_set ?_ GE301.out) | exact HB.out)) hb)
               clear BK297
               clear BK301
               clear HB
               have BK297 := n0_
               have BK301 := n1_
               have HB := n2_
               clear n0_ n1_ n2_
               (try clear hb)
               (try clear hb2)
               (try clear hk)
               (try clear hi)
               refine hK.out _ _ ⟨(blk_cell BK301.out 0).trans rfl, (blk_cell BK301.out 1).trans rfl, (blk_cell BK301.out 2).trans rfl, (blk_cell BK301.out 3).trans rfl, (blk_cell BK301.out 4).trans rfl, (blk_cell BK297.out 0).trans rfl, (blk_cell BK297.out 1).trans rfl, (blk_cell BK297.out 2).trans rfl⟩ (fun hHeld => ?_)
               clear hK K
               refine norm_ (a' := ?_) ?_ ?_
               rotate_left
               ·show Act.put _ (some 83) _ = _
                simp only [Act.put, qa_, qb_, qc_, i64_w, i32_w]
                rfl
               refine pure_ (i := 51) (N := some 84) (v := ?_) (a' := ?_) spec_GrdOk.mk52 rfl rfl (any_of HT_.out (by kernel_rfl)) (fun _ _ _ h => h) (Or.inl ⟨by rfl, ?_⟩) ?_ ?_
               rotate_left
               ·intro w'
                go_simp
                with_reducible rfl
               rotate_left
               ·simp only [Act.put, qa_, qb_, qc_, i64_w, i32_w]
                rfl
               refine pure_ (i := 52) (N := some 85) (v := ?_) (a' := ?_) spec_GrdOk.mk53 rfl rfl (any_of HT_.out (by kernel_rfl)) (fun _ _ _ h => h) (Or.inl ⟨by rfl, ?_⟩) ?_ ?_
               rotate_left
               ·intro w'
                go_simp
                with_reducible rfl
               rotate_left
               ·simp only [Act.put, qa_, qb_, qc_, i64_w, i32_w]
                rfl
               refine done_ (done_of HT_.out (by kernel_rfl)) ?_
               try go_wp2
               go_roundg k2
               case measure => have := HJ1.out; have := HK2.out; omega
               case rel => exact ⟨(wrap64 (x3_2 + 1)), (by first | rfl | (simp; done) | (simp [*]; done)), H', ⟨by have := HJ1.out; have := HK2.out; omega⟩, ⟨by (with_reducible repeat (first | refine blk_drewN ?_ _ | refine blk_drew ?_ | refine blk_alloc ?_ _)); exact BK297.out⟩, ⟨by repeat (first | (with_reducible first | exact HB.out | apply below_alloc | apply pw_below_drewN | apply below_drew1 | refine below_set ?_ GE297.out | refine below_set ?_ GE301.out) | exact HB.out)⟩⟩
              ·replace c27 := Bool.eq_false_iff.mpr c27
               subst c27
               have H1 : (some false) = some r := by rw [if_neg (show ¬ (false = true) by decide)] at H; exact H
               clear H
               have H := H1
               clear H1
               obtain rfl := Option.some.inj H
               have hcz36_0 : wr.cell? ⟨gb297, 0, none⟩ = some (.int .i64 a0_0) := (blk_cell BK297.out 0).trans rfl
               have hcz36_1 : wr.cell? ⟨gb297, 1, none⟩ = some (.int .i64 a0_1) := (blk_cell BK297.out 1).trans rfl
               have hcz36_2 : wr.cell? ⟨gb297, 2, none⟩ = some (.slice A0_2 l0_2.length c0_2) := (blk_cell BK297.out 2).trans rfl
               have hfz36_0 := blk_frozen BK297.out 0
               have hfz36_1 := blk_frozen BK297.out 1
               have hfz36_2 := blk_frozen BK297.out 2
               have p300 : 0 ≤ (x3_2 : Int) := of_decide_eq_true (by first | (with_reducible assumption) | assumption)
               have q300 : x3_2 < (l0_2.length : Int) := of_decide_eq_true (by first | (with_reducible assumption) | assumption)
               obtain ⟨ad300, e300, hx300_0, hx300_1, hx300_2, hx300_3, hx300_4⟩ := at_T65 HR0_2.out x3_2 p300 q300
               cases e300
               replace hx300_0 := (HB.out.cell (World.block_lt_of_cell? w _ hx300_0)).trans hx300_0
               replace hx300_1 := (HB.out.cell (World.block_lt_of_cell? w _ hx300_1)).trans hx300_1
               replace hx300_2 := (HB.out.cell (World.block_lt_of_cell? w _ hx300_2)).trans hx300_2
               replace hx300_3 := (HB.out.cell (World.block_lt_of_cell? w _ hx300_3)).trans hx300_3
               replace hx300_4 := (HB.out.cell (World.block_lt_of_cell? w _ hx300_4)).trans hx300_4
               replace p300 := eq_true p300
               replace q300 := eq_true q300
               try go_wp2_with (first | ((with_reducible refine gate_dst (N := 4) rfl ?_); (try (refine gate_guard (by rfl) ?_; dsimp only)); refine box_event ?hg (N := 4) ?hd (cs := #[.int .i64 0, .int .i64 0, .int .i64 0, .int .i64 0, .int .i64 0]) (t := 65) ?hr ?_; (case hd => rfl); (case hg => rfl); (case hr => first | (go_simp; done) | (go_simp; rfl)); intro gb301 hg w37 hbox hb; have n0_ := Aside0.mk (blk_below (g := gb297) (o := .cells #[.int .i64 a0_0, .int .i64 a0_1, .slice (some ad300) l0_2.length c0_2] 42 (0, 0)) (by (with_reducible repeat (first | refine blk_drewN ?_ _ | refine blk_drew ?_ | refine blk_alloc ?_ _)); exact BK297.out) hb); have n1_ := Aside0.mk (below_step (by repeat (first | (with_reducible first | exact HB.out | apply below_alloc | apply pw_below_drewN | apply below_drew1 | refine below_set ?_ GE297.out) | exact HB.out)) hb); have n2_ := Aside0.mk (hbox); have n3_ := Aside0.mk ((by rw [hg]; exact (below_size (by repeat (first | (with_reducible first | exact HB.out | apply below_alloc | apply pw_below_drewN | apply below_drew1 | refine below_set ?_ GE297.out) | exact HB.out))) : w.heap.size ≤ gb301)); have n4_ := Aside0.mk ((by rw [hg]; exact (below_size (by repeat (first | (with_reducible first | exact HB.out | apply below_alloc | apply pw_below_drewN | apply below_drew1 | refine below_set ?_ GE297.out) | exact HB.out))) : w.heap.size ≤ gb301)); have n5_ := Aside0.mk ((by rw [hg]; exact Nat.ne_of_lt (blk_lt (g := gb297) (o := .cells #[.int .i64 a0_0, .int .i64 a0_1, .slice (some ad300) l0_2.length c0_2] 42 (0, 0)) (by (with_reducible repeat (first | refine blk_drewN ?_ _ | refine blk_drew ?_ | refine blk_alloc ?_ _)); exact BK297.out)) : gb297 ≠ gb301)); have n6_ := Aside0.mk ((by rw [hg]; exact Nat.ne_of_gt (blk_lt (g := gb297) (o := .cells #[.int .i64 a0_0, .int .i64 a0_1, .slice (some ad300) l0_2.length c0_2] 42 (0, 0)) (by (with_reducible repeat (first | refine blk_drewN ?_ _ | refine blk_drew ?_ | refine blk_alloc ?_ _)); exact BK297.out)) : gb301 ≠ gb297)); clear BK297; clear HB; have BK297 := n0_; have HB := n1_; have BK301 := n2_; have GW301 := n3_; have GE301 := n4_; have NB297_301 := n5_; have NB301_297 := n6_; clear n0_ n1_ n2_ n3_ n4_ n5_ n6_; clear hb hbox hg; have hnb38 := NB301_297.out; have hnc38 := NB297_301.out; have hcz39_0 : w37.cell? ⟨gb301, 0, none⟩ = some (.int .i64 0) := (blk_cell BK301.out 0).trans rfl; have hcz39_1 : w37.cell? ⟨gb301, 1, none⟩ = some (.int .i64 0) := (blk_cell BK301.out 1).trans rfl; have hcz39_2 : w37.cell? ⟨gb301, 2, none⟩ = some (.int .i64 0) := (blk_cell BK301.out 2).trans rfl; have hcz39_3 : w37.cell? ⟨gb301, 3, none⟩ = some (.int .i64 0) := (blk_cell BK301.out 3).trans rfl; have hcz39_4 : w37.cell? ⟨gb301, 4, none⟩ = some (.int .i64 0) := (blk_cell BK301.out 4).trans rfl; have hfz39_0 := blk_frozen BK301.out 0; have hfz39_1 := blk_frozen BK301.out 1; have hfz39_2 := blk_frozen BK301.out 2; have hfz39_3 := blk_frozen BK301.out 3; have hfz39_4 := blk_frozen BK301.out 4))
               have n0_ : Aside0 ((((((w37.setCell ⟨gb301, 0, none⟩ (.int .i64 ((rd_T65 l0_2 x3_2).f0))).setCell ⟨gb301, 1, none⟩ (.int .i64 ((rd_T65 l0_2 x3_2).f1))).setCell ⟨gb301, 2, none⟩ (.int .i64 ((rd_T65 l0_2 x3_2).f2))).setCell ⟨gb301, 3, none⟩ (.int .i64 ((rd_T65 l0_2 x3_2).f3))).setCell ⟨gb301, 4, none⟩ (.int .i64 ((rd_T65 l0_2 x3_2).f4))).heap[gb297]? = some (.cells #[.int .i64 a0_0, .int .i64 a0_1, .slice (some ad300) l0_2.length c0_2] 42 (0, 0))) := ⟨by (with_reducible repeat (first | refine blk_drewN ?_ _ | refine blk_drew ?_ | refine blk_alloc ?_ _)); refine blk_far ?_ NB297_301.out _; (with_reducible repeat (first | refine blk_drewN ?_ _ | refine blk_drew ?_ | refine blk_alloc ?_ _)); refine blk_far ?_ NB297_301.out _; (with_reducible repeat (first | refine blk_drewN ?_ _ | refine blk_drew ?_ | refine blk_alloc ?_ _)); refine blk_far ?_ NB297_301.out _; (with_reducible repeat (first | refine blk_drewN ?_ _ | refine blk_drew ?_ | refine blk_alloc ?_ _)); refine blk_far ?_ NB297_301.out _; (with_reducible repeat (first | refine blk_drewN ?_ _ | refine blk_drew ?_ | refine blk_alloc ?_ _)); refine blk_far ?_ NB297_301.out _; (with_reducible repeat (first | refine blk_drewN ?_ _ | refine blk_drew ?_ | refine blk_alloc ?_ _)); exact BK297.out⟩
               have n1_ : Aside0 ((((((w37.setCell ⟨gb301, 0, none⟩ (.int .i64 ((rd_T65 l0_2 x3_2).f0))).setCell ⟨gb301, 1, none⟩ (.int .i64 ((rd_T65 l0_2 x3_2).f1))).setCell ⟨gb301, 2, none⟩ (.int .i64 ((rd_T65 l0_2 x3_2).f2))).setCell ⟨gb301, 3, none⟩ (.int .i64 ((rd_T65 l0_2 x3_2).f3))).setCell ⟨gb301, 4, none⟩ (.int .i64 ((rd_T65 l0_2 x3_2).f4))).heap[gb301]? = some (.cells #[.int .i64 ((rd_T65 l0_2 x3_2).f0), .int .i64 ((rd_T65 l0_2 x3_2).f1), .int .i64 ((rd_T65 l0_2 x3_2).f2), .int .i64 ((rd_T65 l0_2 x3_2).f3), .int .i64 ((rd_T65 l0_2 x3_2).f4)] 65 (0, 0))) := ⟨by (with_reducible repeat (first | refine blk_drewN ?_ _ | refine blk_drew ?_ | refine blk_alloc ?_ _)); refine blk_put (cs := #[.int .i64 ((rd_T65 l0_2 x3_2).f0), .int .i64 ((rd_T65 l0_2 x3_2).f1), .int .i64 ((rd_T65 l0_2 x3_2).f2), .int .i64 ((rd_T65 l0_2 x3_2).f3), .int .i64 0]) ?_ 4 _ rfl; (with_reducible repeat (first | refine blk_drewN ?_ _ | refine blk_drew ?_ | refine blk_alloc ?_ _)); refine blk_put (cs := #[.int .i64 ((rd_T65 l0_2 x3_2).f0), .int .i64 ((rd_T65 l0_2 x3_2).f1), .int .i64 ((rd_T65 l0_2 x3_2).f2), .int .i64 0, .int .i64 0]) ?_ 3 _ rfl; (with_reducible repeat (first | refine blk_drewN ?_ _ | refine blk_drew ?_ | refine blk_alloc ?_ _)); refine blk_put (cs := #[.int .i64 ((rd_T65 l0_2 x3_2).f0), .int .i64 ((rd_T65 l0_2 x3_2).f1), .int .i64 0, .int .i64 0, .int .i64 0]) ?_ 2 _ rfl; (with_reducible repeat (first | refine blk_drewN ?_ _ | refine blk_drew ?_ | refine blk_alloc ?_ _)); refine blk_put (cs := #[.int .i64 ((rd_T65 l0_2 x3_2).f0), .int .i64 0, .int .i64 0, .int .i64 0, .int .i64 0]) ?_ 1 _ rfl; (with_reducible repeat (first | refine blk_drewN ?_ _ | refine blk_drew ?_ | refine blk_alloc ?_ _)); refine blk_put (cs := #[.int .i64 0, .int .i64 0, .int .i64 0, .int .i64 0, .int .i64 0]) ?_ 0 _ rfl; (with_reducible repeat (first | refine blk_drewN ?_ _ | refine blk_drew ?_ | refine blk_alloc ?_ _)); exact BK301.out⟩
               have n2_ : Aside0 (Below w.heap.size w (((((w37.setCell ⟨gb301, 0, none⟩ (.int .i64 ((rd_T65 l0_2 x3_2).f0))).setCell ⟨gb301, 1, none⟩ (.int .i64 ((rd_T65 l0_2 x3_2).f1))).setCell ⟨gb301, 2, none⟩ (.int .i64 ((rd_T65 l0_2 x3_2).f2))).setCell ⟨gb301, 3, none⟩ (.int .i64 ((rd_T65 l0_2 x3_2).f3))).setCell ⟨gb301, 4, none⟩ (.int .i64 ((rd_T65 l0_2 x3_2).f4)))) := ⟨by repeat (first | (with_reducible first | exact HB.out | apply below_alloc | apply pw_below_drewN | apply below_drew1 | refine below_set ?_ GE297.out | refine below_set ?_ GE301.out) | exact HB.out)⟩
               (try clear BK297)
               (try clear BK301)
               (try clear HB)
               generalize (((((w37.setCell ⟨gb301, 0, none⟩ (.int .i64 ((rd_T65 l0_2 x3_2).f0))).setCell ⟨gb301, 1, none⟩ (.int .i64 ((rd_T65 l0_2 x3_2).f1))).setCell ⟨gb301, 2, none⟩ (.int .i64 ((rd_T65 l0_2 x3_2).f2))).setCell ⟨gb301, 3, none⟩ (.int .i64 ((rd_T65 l0_2 x3_2).f3))).setCell ⟨gb301, 4, none⟩ (.int .i64 ((rd_T65 l0_2 x3_2).f4))) = w40 at n0_ n1_ n2_ ⊢
               have BK297 := n0_
               have BK301 := n1_
               have HB := n2_
               clear n0_ n1_ n2_
               have n0_ := Aside0.mk (blk_drew BK297.out)
               have n1_ := Aside0.mk (blk_drew BK301.out)
               have n2_ := Aside0.mk (below_drew1 HB.out)
               clear BK297
               clear BK301
               clear HB
               have BK297 := n0_
               have BK301 := n1_
               have HB := n2_
               clear n0_ n1_ n2_
               refine start_ (n := 53) (S := fun w' => w'.cell? ⟨gb301, 0, none⟩ = some (.int .i64 ((rd_T65 l0_2 x3_2).f0)) ∧ w'.cell? ⟨gb301, 1, none⟩ = some (.int .i64 ((rd_T65 l0_2 x3_2).f1)) ∧ w'.cell? ⟨gb301, 2, none⟩ = some (.int .i64 ((rd_T65 l0_2 x3_2).f2)) ∧ w'.cell? ⟨gb301, 3, none⟩ = some (.int .i64 ((rd_T65 l0_2 x3_2).f3)) ∧ w'.cell? ⟨gb301, 4, none⟩ = some (.int .i64 ((rd_T65 l0_2 x3_2).f4)) ∧ w'.cell? ⟨gb297, 0, none⟩ = some (.int .i64 a0_0) ∧ w'.cell? ⟨gb297, 1, none⟩ = some (.int .i64 a0_1) ∧ w'.cell? ⟨gb297, 2, none⟩ = some (.slice (some ad300) l0_2.length c0_2)) (ds := []) spec_GrdOk.mk0 (by kernel_rfl) rfl rfl ⟨(blk_cell BK301.out 0).trans rfl, (blk_cell BK301.out 1).trans rfl, (blk_cell BK301.out 2).trans rfl, (blk_cell BK301.out 3).trans rfl, (blk_cell BK301.out 4).trans rfl, (blk_cell BK297.out 0).trans rfl, (blk_cell BK297.out 1).trans rfl, (blk_cell BK297.out 2).trans rfl⟩ (fun hHeld => ?_); refine with_tabW spec_GrdOk.tab7 spec_GrdOk.bits7 (fun HT_ HW_ => ?_)
               generalize w40.drew = w41 at BK297 BK301 HB hHeld ⊢
               refine pure_ (i := 0) (N := some 33) (v := ?_) (a' := ?_) spec_GrdOk.mk1 rfl rfl (any_of HT_.out (by kernel_rfl)) (fun _ _ _ h => h) (Or.inl ⟨by rfl, ?_⟩) ?_ ?_
               rotate_left
               ·intro w'
                go_simp
                with_reducible rfl
               rotate_left
               ·simp only [Act.put, qa_, qb_, qc_, i64_w, i32_w]
                rfl
               refine pure_ (i := 2) (N := some 35) (v := ?_) (a' := ?_) spec_GrdOk.mk2 rfl rfl (any_of HT_.out (by kernel_rfl)) (fun _ _ _ h => h) (Or.inl ⟨by rfl, ?_⟩) ?_ ?_
               rotate_left
               ·intro w'
                go_simp
                with_reducible rfl
               rotate_left
               ·simp only [Act.put, qa_, qb_, qc_, i64_w, i32_w]
                rfl
               refine take_ (i := 1) (N := some 34) (v := ?_) (a' := ?_) spec_GrdOk.mk3 rfl rfl (take_ofW HT_.out HW_.out (by kernel_rfl)) (fun _ _ _ h => h) (Or.inl ⟨by rfl, ?_⟩) hHeld ?_ ?_
               rotate_left
               ·rintro w' ⟨s0, s1, s2, s3, s4, s5, s6, s7⟩
                go_simp
                with_reducible rfl
               rotate_left
               ·simp only [Act.put, qa_, qb_, qc_, i64_w, i32_w]
                rfl
               refine take_ (i := 3) (N := some 36) (v := ?_) (a' := ?_) spec_GrdOk.mk4 rfl rfl (take_ofW HT_.out HW_.out (by kernel_rfl)) (fun _ _ _ h => h) (Or.inl ⟨by rfl, ?_⟩) hHeld ?_ ?_
               rotate_left
               ·rintro w' ⟨s0, s1, s2, s3, s4, s5, s6, s7⟩
                go_simp
                with_reducible rfl
               rotate_left
               ·simp only [Act.put, qa_, qb_, qc_, i64_w, i32_w]
                rfl
               refine pure_ (i := 4) (N := some 37) (v := ?_) (a' := ?_) spec_GrdOk.mk5 rfl rfl (any_of HT_.out (by kernel_rfl)) (fun _ _ _ h => h) (Or.inl ⟨by rfl, ?_⟩) ?_ ?_
               rotate_left
               ·intro w'
                go_simp
                with_reducible rfl
               rotate_left
               ·simp only [Act.put, qa_, qb_, qc_, i64_w, i32_w]
                rfl
               refine one_ (i := 5) (N := some 38) spec_GrdOk.mk6 rfl rfl (one_of HT_.out (by kernel_rfl)) (by decide) (fun K hK => ?_)
               refine goes_ Try.func39 (by kernel_rfl) rfl #[.int .i64 ((rd_T65 l0_2 x3_2).f0), .int .i64 0, .int .i64 (wrap64 (a0_0 - 1))] (by rfl) rfl rfl (by (try simp only [List.map_toArray, List.map_cons, List.map_nil]); first | done | rfl | (simp only [List.length_drop, List.length_take]; rfl)) ?_
               with_reducible refine (spec_l1In.calls ((rd_T65 l0_2 x3_2).f0) 0 (wrap64 (a0_0 - 1)) true _ A14.out).mono ?_
               rintro e w' ⟨rfl, ⟨nd, rfl⟩⟩
               refine ⟨_, rfl, ?_⟩
               refine hK.out _ _ ⟨(blk_cell BK301.out 0).trans rfl, (blk_cell BK301.out 1).trans rfl, (blk_cell BK301.out 2).trans rfl, (blk_cell BK301.out 3).trans rfl, (blk_cell BK301.out 4).trans rfl, (blk_cell BK297.out 0).trans rfl, (blk_cell BK297.out 1).trans rfl, (blk_cell BK297.out 2).trans rfl⟩ (fun hHeld => ?_)
               clear hK K
               refine norm_ (a' := ?_) ?_ ?_
               rotate_left
               ·show Act.put _ (some 38) _ = _
                simp only [Act.put, qa_, qb_, qc_, i64_w, i32_w]
                rfl
               refine pure_ (i := 6) (N := some 39) (v := ?_) (a' := ?_) spec_GrdOk.mk7 rfl rfl (any_of HT_.out (by kernel_rfl)) (fun _ _ _ h => h) (Or.inl ⟨by rfl, ?_⟩) ?_ ?_
               rotate_left
               ·intro w'
                go_simp
                with_reducible rfl
               rotate_left
               ·simp only [Act.put, qa_, qb_, qc_, i64_w, i32_w]
                rfl
               refine pure_ (i := 7) (N := some 40) (v := ?_) (a' := ?_) spec_GrdOk.mk8 rfl rfl (any_of HT_.out (by kernel_rfl)) (fun _ _ _ h => h) (Or.inl ⟨by rfl, ?_⟩) ?_ ?_
               rotate_left
               ·intro w'
                go_simp
                with_reducible rfl
               rotate_left
               ·simp only [Act.put, qa_, qb_, qc_, i64_w, i32_w]
                rfl
               refine pure_ (i := 8) (N := some 41) (v := ?_) (a' := ?_) spec_GrdOk.mk9 rfl rfl (any_of HT_.out (by kernel_rfl)) (fun _ _ _ h => h) (Or.inl ⟨by rfl, ?_⟩) ?_ ?_
               rotate_left
               ·intro w'
                go_simp
                with_reducible rfl
               rotate_left
               ·simp only [Act.put, qa_, qb_, qc_, i64_w, i32_w]
                rfl
               refine pure_ (i := 10) (N := some 43) (v := ?_) (a' := ?_) spec_GrdOk.mk10 rfl rfl (any_of HT_.out (by kernel_rfl)) (fun _ _ _ h => h) (Or.inl ⟨by rfl, ?_⟩) ?_ ?_
               rotate_left
               ·intro w'
                go_simp
                with_reducible rfl
               rotate_left
               ·simp only [Act.put, qa_, qb_, qc_, i64_w, i32_w]
                rfl
               refine take_ (i := 9) (N := some 42) (v := ?_) (a' := ?_) spec_GrdOk.mk11 rfl rfl (take_ofW HT_.out HW_.out (by kernel_rfl)) (fun _ _ _ h => h) (Or.inl ⟨by rfl, ?_⟩) hHeld ?_ ?_
               rotate_left
               ·rintro w' ⟨s0, s1, s2, s3, s4, s5, s6, s7⟩
                go_simp
                with_reducible rfl
               rotate_left
               ·simp only [Act.put, qa_, qb_, qc_, i64_w, i32_w]
                rfl
               refine take_ (i := 11) (N := some 44) (v := ?_) (a' := ?_) spec_GrdOk.mk12 rfl rfl (take_ofW HT_.out HW_.out (by kernel_rfl)) (fun _ _ _ h => h) (Or.inl ⟨by rfl, ?_⟩) hHeld ?_ ?_
               rotate_left
               ·rintro w' ⟨s0, s1, s2, s3, s4, s5, s6, s7⟩
                go_simp
                with_reducible rfl
               rotate_left
               ·simp only [Act.put, qa_, qb_, qc_, i64_w, i32_w]
                rfl
               refine pure_ (i := 12) (N := some 45) (v := ?_) (a' := ?_) spec_GrdOk.mk13 rfl rfl (any_of HT_.out (by kernel_rfl)) (fun _ _ _ h => h) (Or.inl ⟨by rfl, ?_⟩) ?_ ?_
               rotate_left
               ·intro w'
                go_simp
                with_reducible rfl
               rotate_left
               ·simp only [Act.put, qa_, qb_, qc_, i64_w, i32_w]
                rfl
               refine one_ (i := 13) (N := some 46) spec_GrdOk.mk14 rfl rfl (one_of HT_.out (by kernel_rfl)) (by decide) (fun K hK => ?_)
               refine goes_ Try.func39 (by kernel_rfl) rfl #[.int .i64 ((rd_T65 l0_2 x3_2).f1), .int .i64 0, .int .i64 (wrap64 (a0_1 - 1))] (by rfl) rfl rfl (by (try simp only [List.map_toArray, List.map_cons, List.map_nil]); first | done | rfl | (simp only [List.length_drop, List.length_take]; rfl)) ?_
               with_reducible refine (spec_l1In.calls ((rd_T65 l0_2 x3_2).f1) 0 (wrap64 (a0_1 - 1)) true _ A16.out).mono ?_
               rintro e w' ⟨rfl, ⟨nd, rfl⟩⟩
               refine ⟨_, rfl, ?_⟩
               refine hK.out _ _ ⟨(blk_cell BK301.out 0).trans rfl, (blk_cell BK301.out 1).trans rfl, (blk_cell BK301.out 2).trans rfl, (blk_cell BK301.out 3).trans rfl, (blk_cell BK301.out 4).trans rfl, (blk_cell BK297.out 0).trans rfl, (blk_cell BK297.out 1).trans rfl, (blk_cell BK297.out 2).trans rfl⟩ (fun hHeld => ?_)
               clear hK K
               refine norm_ (a' := ?_) ?_ ?_
               rotate_left
               ·show Act.put _ (some 46) _ = _
                simp only [Act.put, qa_, qb_, qc_, i64_w, i32_w]
                rfl
               refine pure_ (i := 14) (N := some 47) (v := ?_) (a' := ?_) spec_GrdOk.mk15 rfl rfl (any_of HT_.out (by kernel_rfl)) (fun _ _ _ h => h) (Or.inl ⟨by rfl, ?_⟩) ?_ ?_
               rotate_left
               ·intro w'
                go_simp
                with_reducible rfl
               rotate_left
               ·simp only [Act.put, qa_, qb_, qc_, i64_w, i32_w]
                rfl
               refine pure_ (i := 15) (N := some 48) (v := ?_) (a' := ?_) spec_GrdOk.mk16 rfl rfl (any_of HT_.out (by kernel_rfl)) (fun _ _ _ h => h) (Or.inl ⟨by rfl, ?_⟩) ?_ ?_
               rotate_left
               ·intro w'
                go_simp
                with_reducible rfl
               rotate_left
               ·simp only [Act.put, qa_, qb_, qc_, i64_w, i32_w]
                rfl
               refine pure_ (i := 16) (N := some 49) (v := ?_) (a' := ?_) spec_GrdOk.mk17 rfl rfl (any_of HT_.out (by kernel_rfl)) (fun _ _ _ h => h) (Or.inl ⟨by rfl, ?_⟩) ?_ ?_
               rotate_left
               ·intro w'
                go_simp
                with_reducible rfl
               rotate_left
               ·simp only [Act.put, qa_, qb_, qc_, i64_w, i32_w]
                rfl
               refine pure_ (i := 17) (N := some 50) (v := ?_) (a' := ?_) spec_GrdOk.mk18 rfl rfl (any_of HT_.out (by kernel_rfl)) (fun _ _ _ h => h) (Or.inl ⟨by rfl, ?_⟩) ?_ ?_
               rotate_left
               ·intro w'
                go_simp
                with_reducible rfl
               rotate_left
               ·simp only [Act.put, qa_, qb_, qc_, i64_w, i32_w]
                rfl
               refine pure_ (i := 19) (N := some 52) (v := ?_) (a' := ?_) spec_GrdOk.mk19 rfl rfl (any_of HT_.out (by kernel_rfl)) (fun _ _ _ h => h) (Or.inl ⟨by rfl, ?_⟩) ?_ ?_
               rotate_left
               ·intro w'
                go_simp
                with_reducible rfl
               rotate_left
               ·simp only [Act.put, qa_, qb_, qc_, i64_w, i32_w]
                rfl
               refine pure_ (i := 21) (N := some 54) (v := ?_) (a' := ?_) spec_GrdOk.mk20 rfl rfl (any_of HT_.out (by kernel_rfl)) (fun _ _ _ h => h) (Or.inl ⟨by rfl, ?_⟩) ?_ ?_
               rotate_left
               ·intro w'
                go_simp
                with_reducible rfl
               rotate_left
               ·simp only [Act.put, qa_, qb_, qc_, i64_w, i32_w]
                rfl
               refine take_ (i := 18) (N := some 51) (v := ?_) (a' := ?_) spec_GrdOk.mk21 rfl rfl (take_ofW HT_.out HW_.out (by kernel_rfl)) (fun _ _ _ h => h) (Or.inl ⟨by rfl, ?_⟩) hHeld ?_ ?_
               rotate_left
               ·rintro w' ⟨s0, s1, s2, s3, s4, s5, s6, s7⟩
                go_simp
                with_reducible rfl
               rotate_left
               ·simp only [Act.put, qa_, qb_, qc_, i64_w, i32_w]
                rfl
               refine take_ (i := 20) (N := some 53) (v := ?_) (a' := ?_) spec_GrdOk.mk22 rfl rfl (take_ofW HT_.out HW_.out (by kernel_rfl)) (fun _ _ _ h => h) (Or.inl ⟨by rfl, ?_⟩) hHeld ?_ ?_
               rotate_left
               ·rintro w' ⟨s0, s1, s2, s3, s4, s5, s6, s7⟩
                go_simp
                with_reducible rfl
               rotate_left
               ·simp only [Act.put, qa_, qb_, qc_, i64_w, i32_w]
                rfl
               refine take_ (i := 22) (N := some 55) (v := ?_) (a' := ?_) spec_GrdOk.mk23 rfl rfl (take_ofW HT_.out HW_.out (by kernel_rfl)) (fun _ _ _ h => h) (Or.inl ⟨by rfl, ?_⟩) hHeld ?_ ?_
               rotate_left
               ·rintro w' ⟨s0, s1, s2, s3, s4, s5, s6, s7⟩
                go_simp
                with_reducible rfl
               rotate_left
               ·simp only [Act.put, qa_, qb_, qc_, i64_w, i32_w]
                rfl
               refine pure_ (i := 23) (N := some 56) (v := ?_) (a' := ?_) spec_GrdOk.mk24 rfl rfl (any_of HT_.out (by kernel_rfl)) (fun _ _ _ h => h) (Or.inl ⟨by rfl, ?_⟩) ?_ ?_
               rotate_left
               ·intro w'
                go_simp
                with_reducible rfl
               rotate_left
               ·simp only [Act.put, qa_, qb_, qc_, i64_w, i32_w]
                rfl
               refine one_ (i := 24) (N := some 57) spec_GrdOk.mk25 rfl rfl (one_of HT_.out (by kernel_rfl)) (by decide) (fun K hK => ?_)
               refine goes_ Try.func39 (by kernel_rfl) rfl #[.int .i64 ((rd_T65 l0_2 x3_2).f2), .int .i64 1, .int .i64 (wrap64 (a0_0 - ((rd_T65 l0_2 x3_2).f0)))] (by rfl) rfl rfl (by (try simp only [List.map_toArray, List.map_cons, List.map_nil]); first | done | rfl | (simp only [List.length_drop, List.length_take]; rfl)) ?_
               with_reducible refine (spec_l1In.calls ((rd_T65 l0_2 x3_2).f2) 1 (wrap64 (a0_0 - ((rd_T65 l0_2 x3_2).f0))) true _ A18.out).mono ?_
               rintro e w' ⟨rfl, ⟨nd, rfl⟩⟩
               refine ⟨_, rfl, ?_⟩
               refine hK.out _ _ ⟨(blk_cell BK301.out 0).trans rfl, (blk_cell BK301.out 1).trans rfl, (blk_cell BK301.out 2).trans rfl, (blk_cell BK301.out 3).trans rfl, (blk_cell BK301.out 4).trans rfl, (blk_cell BK297.out 0).trans rfl, (blk_cell BK297.out 1).trans rfl, (blk_cell BK297.out 2).trans rfl⟩ (fun hHeld => ?_)
               clear hK K
               refine norm_ (a' := ?_) ?_ ?_
               rotate_left
               ·show Act.put _ (some 57) _ = _
                simp only [Act.put, qa_, qb_, qc_, i64_w, i32_w]
                rfl
               refine pure_ (i := 25) (N := some 58) (v := ?_) (a' := ?_) spec_GrdOk.mk26 rfl rfl (any_of HT_.out (by kernel_rfl)) (fun _ _ _ h => h) (Or.inl ⟨by rfl, ?_⟩) ?_ ?_
               rotate_left
               ·intro w'
                go_simp
                with_reducible rfl
               rotate_left
               ·simp only [Act.put, qa_, qb_, qc_, i64_w, i32_w]
                rfl
               refine pure_ (i := 26) (N := some 59) (v := ?_) (a' := ?_) spec_GrdOk.mk27 rfl rfl (any_of HT_.out (by kernel_rfl)) (fun _ _ _ h => h) (Or.inl ⟨by rfl, ?_⟩) ?_ ?_
               rotate_left
               ·intro w'
                go_simp
                with_reducible rfl
               rotate_left
               ·simp only [Act.put, qa_, qb_, qc_, i64_w, i32_w]
                rfl
               refine pure_ (i := 27) (N := some 60) (v := ?_) (a' := ?_) spec_GrdOk.mk28 rfl rfl (any_of HT_.out (by kernel_rfl)) (fun _ _ _ h => h) (Or.inl ⟨by rfl, ?_⟩) ?_ ?_
               rotate_left
               ·intro w'
                go_simp
                with_reducible rfl
               rotate_left
               ·simp only [Act.put, qa_, qb_, qc_, i64_w, i32_w]
                rfl
               refine pure_ (i := 28) (N := some 61) (v := ?_) (a' := ?_) spec_GrdOk.mk29 rfl rfl (any_of HT_.out (by kernel_rfl)) (fun _ _ _ h => h) (Or.inl ⟨by rfl, ?_⟩) ?_ ?_
               rotate_left
               ·intro w'
                go_simp
                with_reducible rfl
               rotate_left
               ·simp only [Act.put, qa_, qb_, qc_, i64_w, i32_w]
                rfl
               refine pure_ (i := 30) (N := some 63) (v := ?_) (a' := ?_) spec_GrdOk.mk30 rfl rfl (any_of HT_.out (by kernel_rfl)) (fun _ _ _ h => h) (Or.inl ⟨by rfl, ?_⟩) ?_ ?_
               rotate_left
               ·intro w'
                go_simp
                with_reducible rfl
               rotate_left
               ·simp only [Act.put, qa_, qb_, qc_, i64_w, i32_w]
                rfl
               refine pure_ (i := 32) (N := some 65) (v := ?_) (a' := ?_) spec_GrdOk.mk31 rfl rfl (any_of HT_.out (by kernel_rfl)) (fun _ _ _ h => h) (Or.inl ⟨by rfl, ?_⟩) ?_ ?_
               rotate_left
               ·intro w'
                go_simp
                with_reducible rfl
               rotate_left
               ·simp only [Act.put, qa_, qb_, qc_, i64_w, i32_w]
                rfl
               refine take_ (i := 29) (N := some 62) (v := ?_) (a' := ?_) spec_GrdOk.mk32 rfl rfl (take_ofW HT_.out HW_.out (by kernel_rfl)) (fun _ _ _ h => h) (Or.inl ⟨by rfl, ?_⟩) hHeld ?_ ?_
               rotate_left
               ·rintro w' ⟨s0, s1, s2, s3, s4, s5, s6, s7⟩
                go_simp
                with_reducible rfl
               rotate_left
               ·simp only [Act.put, qa_, qb_, qc_, i64_w, i32_w]
                rfl
               refine take_ (i := 31) (N := some 64) (v := ?_) (a' := ?_) spec_GrdOk.mk33 rfl rfl (take_ofW HT_.out HW_.out (by kernel_rfl)) (fun _ _ _ h => h) (Or.inl ⟨by rfl, ?_⟩) hHeld ?_ ?_
               rotate_left
               ·rintro w' ⟨s0, s1, s2, s3, s4, s5, s6, s7⟩
                go_simp
                with_reducible rfl
               rotate_left
               ·simp only [Act.put, qa_, qb_, qc_, i64_w, i32_w]
                rfl
               refine take_ (i := 33) (N := some 66) (v := ?_) (a' := ?_) spec_GrdOk.mk34 rfl rfl (take_ofW HT_.out HW_.out (by kernel_rfl)) (fun _ _ _ h => h) (Or.inl ⟨by rfl, ?_⟩) hHeld ?_ ?_
               rotate_left
               ·rintro w' ⟨s0, s1, s2, s3, s4, s5, s6, s7⟩
                go_simp
                with_reducible rfl
               rotate_left
               ·simp only [Act.put, qa_, qb_, qc_, i64_w, i32_w]
                rfl
               refine pure_ (i := 34) (N := some 67) (v := ?_) (a' := ?_) spec_GrdOk.mk35 rfl rfl (any_of HT_.out (by kernel_rfl)) (fun _ _ _ h => h) (Or.inl ⟨by rfl, ?_⟩) ?_ ?_
               rotate_left
               ·intro w'
                go_simp
                with_reducible rfl
               rotate_left
               ·simp only [Act.put, qa_, qb_, qc_, i64_w, i32_w]
                rfl
               refine one_ (i := 35) (N := some 68) spec_GrdOk.mk36 rfl rfl (one_of HT_.out (by kernel_rfl)) (by decide) (fun K hK => ?_)
               refine goes_ Try.func39 (by kernel_rfl) rfl #[.int .i64 ((rd_T65 l0_2 x3_2).f3), .int .i64 1, .int .i64 (wrap64 (a0_1 - ((rd_T65 l0_2 x3_2).f1)))] (by rfl) rfl rfl (by (try simp only [List.map_toArray, List.map_cons, List.map_nil]); first | done | rfl | (simp only [List.length_drop, List.length_take]; rfl)) ?_
               with_reducible refine (spec_l1In.calls ((rd_T65 l0_2 x3_2).f3) 1 (wrap64 (a0_1 - ((rd_T65 l0_2 x3_2).f1))) true _ A20.out).mono ?_
               rintro e w' ⟨rfl, ⟨nd, rfl⟩⟩
               refine ⟨_, rfl, ?_⟩
               refine hK.out _ _ ⟨(blk_cell BK301.out 0).trans rfl, (blk_cell BK301.out 1).trans rfl, (blk_cell BK301.out 2).trans rfl, (blk_cell BK301.out 3).trans rfl, (blk_cell BK301.out 4).trans rfl, (blk_cell BK297.out 0).trans rfl, (blk_cell BK297.out 1).trans rfl, (blk_cell BK297.out 2).trans rfl⟩ (fun hHeld => ?_)
               clear hK K
               refine norm_ (a' := ?_) ?_ ?_
               rotate_left
               ·show Act.put _ (some 68) _ = _
                simp only [Act.put, qa_, qb_, qc_, i64_w, i32_w]
                rfl
               refine pure_ (i := 36) (N := some 69) (v := ?_) (a' := ?_) spec_GrdOk.mk37 rfl rfl (any_of HT_.out (by kernel_rfl)) (fun _ _ _ h => h) (Or.inl ⟨by rfl, ?_⟩) ?_ ?_
               rotate_left
               ·intro w'
                go_simp
                with_reducible rfl
               rotate_left
               ·simp only [Act.put, qa_, qb_, qc_, i64_w, i32_w]
                rfl
               refine pure_ (i := 37) (N := some 70) (v := ?_) (a' := ?_) spec_GrdOk.mk38 rfl rfl (any_of HT_.out (by kernel_rfl)) (fun _ _ _ h => h) (Or.inl ⟨by rfl, ?_⟩) ?_ ?_
               rotate_left
               ·intro w'
                go_simp
                with_reducible rfl
               rotate_left
               ·simp only [Act.put, qa_, qb_, qc_, i64_w, i32_w]
                rfl
               refine pure_ (i := 38) (N := some 71) (v := ?_) (a' := ?_) spec_GrdOk.mk39 rfl rfl (any_of HT_.out (by kernel_rfl)) (fun _ _ _ h => h) (Or.inl ⟨by rfl, ?_⟩) ?_ ?_
               rotate_left
               ·intro w'
                go_simp
                with_reducible rfl
               rotate_left
               ·simp only [Act.put, qa_, qb_, qc_, i64_w, i32_w]
                rfl
               refine pure_ (i := 39) (N := some 72) (v := ?_) (a' := ?_) spec_GrdOk.mk40 rfl rfl (any_of HT_.out (by kernel_rfl)) (fun _ _ _ h => h) (Or.inl ⟨by rfl, ?_⟩) ?_ ?_
               rotate_left
               ·intro w'
                go_simp
                with_reducible rfl
               rotate_left
               ·simp only [Act.put, qa_, qb_, qc_, i64_w, i32_w]
                rfl
               refine take_ (i := 40) (N := some 73) (v := ?_) (a' := ?_) spec_GrdOk.mk41 rfl rfl (take_ofW HT_.out HW_.out (by kernel_rfl)) (fun _ _ _ h => h) (Or.inl ⟨by rfl, ?_⟩) hHeld ?_ ?_
               rotate_left
               ·rintro w' ⟨s0, s1, s2, s3, s4, s5, s6, s7⟩
                go_simp
                with_reducible rfl
               rotate_left
               ·simp only [Act.put, qa_, qb_, qc_, i64_w, i32_w]
                rfl
               refine one_ (i := 41) (N := some 74) spec_GrdOk.mk42 rfl rfl (one_of HT_.out (by kernel_rfl)) (by decide) (fun K hK => ?_)
               refine goes_ Try.func39 (by kernel_rfl) rfl #[.int .i64 ((rd_T65 l0_2 x3_2).f4), .int .i64 0, .int .i64 4] (by rfl) rfl rfl (by (try simp only [List.map_toArray, List.map_cons, List.map_nil]); first | done | rfl | (simp only [List.length_drop, List.length_take]; rfl)) ?_
               with_reducible refine (spec_l1In.calls ((rd_T65 l0_2 x3_2).f4) 0 4 true _ A22.out).mono ?_
               rintro e w' ⟨rfl, ⟨nd, rfl⟩⟩
               refine ⟨_, rfl, ?_⟩
               have q42 : (x3_2 : Int) ≤ ((l0_2.length : Int) : Int) := of_decide_eq_true (by first | (with_reducible assumption) | assumption)
               obtain ⟨i042, hi042, _, hsz42, _⟩ := info_parts info65
               have hroom42 : l0_2.length ≤ c0_2 := HC0_2.out
               have hC42 : Kd.C k65 _ (some ad300) l0_2.length l0_2 := HR0_2.out
               have hcut42 := cut_to (P := Try.prog) 40 65 .i64 Try.underlying40 hi042 (some ad300) l0_2.length c0_2 x3_2 (of_decide_eq_true (by first | (with_reducible assumption) | assumption)) q42 hroom42
               have hr42 := Kd.C_take (m := (x3_2 : Int).toNat) hC42 (by omega)
               have hy42 : y307.length = (x3_2 : Int).toNat := (by rw [Ny307.out, List.length_take]; omega)
               rw [← Ny307.out] at hr42
               rw [← hy42] at hcut42
               have HR310 := Aside0.mk hr42
               have HC310 := Aside0.mk (show y307.length ≤ c0_2 from by omega)
               clear hr42 hC42 hroom42 hi042 hsz42
               have KY42 := Aside0.mk hy42
               clear hy42
               replace q42 := eq_true q42
               refine hK.out _ _ ⟨(blk_cell BK301.out 0).trans rfl, (blk_cell BK301.out 1).trans rfl, (blk_cell BK301.out 2).trans rfl, (blk_cell BK301.out 3).trans rfl, (blk_cell BK301.out 4).trans rfl, (blk_cell BK297.out 0).trans rfl, (blk_cell BK297.out 1).trans rfl, (blk_cell BK297.out 2).trans rfl⟩ (fun hHeld => ?_)
               clear hK K
               refine norm_ (a' := ?_) ?_ ?_
               rotate_left
               ·show Act.put _ (some 74) _ = _
                simp only [Act.put, qa_, qb_, qc_, i64_w, i32_w]
                rfl
               refine pure_ (i := 42) (N := some 75) (v := ?_) (a' := ?_) spec_GrdOk.mk43 rfl rfl (any_of HT_.out (by kernel_rfl)) (fun _ _ _ h => h) (Or.inl ⟨by rfl, ?_⟩) ?_ ?_
               rotate_left
               ·intro w'
                go_simp
                with_reducible rfl
               rotate_left
               ·simp only [Act.put, qa_, qb_, qc_, i64_w, i32_w]
                rfl
               refine pure_ (i := 43) (N := some 76) (v := ?_) (a' := ?_) spec_GrdOk.mk44 rfl rfl (any_of HT_.out (by kernel_rfl)) (fun _ _ _ h => h) (Or.inl ⟨by rfl, ?_⟩) ?_ ?_
               rotate_left
               ·intro w'
                go_simp
                with_reducible rfl
               rotate_left
               ·simp only [Act.put, qa_, qb_, qc_, i64_w, i32_w]
                rfl
               refine pure_ (i := 44) (N := some 77) (v := ?_) (a' := ?_) spec_GrdOk.mk45 rfl rfl (any_of HT_.out (by kernel_rfl)) (fun _ _ _ h => h) (Or.inl ⟨by rfl, ?_⟩) ?_ ?_
               rotate_left
               ·intro w'
                go_simp
                with_reducible rfl
               rotate_left
               ·simp only [Act.put, qa_, qb_, qc_, i64_w, i32_w]
                rfl
               refine pure_ (i := 45) (N := some 78) (v := ?_) (a' := ?_) spec_GrdOk.mk46 rfl rfl (any_of HT_.out (by kernel_rfl)) (fun _ _ _ h => h) (Or.inl ⟨by rfl, ?_⟩) ?_ ?_
               rotate_left
               ·intro w'
                go_simp
                with_reducible rfl
               rotate_left
               ·simp only [Act.put, qa_, qb_, qc_, i64_w, i32_w]
                rfl
               refine pure_ (i := 47) (N := some 80) (v := ?_) (a' := ?_) spec_GrdOk.mk47 rfl rfl (any_of HT_.out (by kernel_rfl)) (fun _ _ _ h => h) (Or.inl ⟨by rfl, ?_⟩) ?_ ?_
               rotate_left
               ·intro w'
                go_simp
                with_reducible rfl
               rotate_left
               ·simp only [Act.put, qa_, qb_, qc_, i64_w, i32_w]
                rfl
               refine take_ (i := 46) (N := some 79) (v := ?_) (a' := ?_) spec_GrdOk.mk48 rfl rfl (take_ofW HT_.out HW_.out (by kernel_rfl)) (fun _ _ _ h => h) (Or.inl ⟨by rfl, ?_⟩) hHeld ?_ ?_
               rotate_left
               ·rintro w' ⟨s0, s1, s2, s3, s4, s5, s6, s7⟩
                go_simp
                with_reducible rfl
               rotate_left
               ·simp only [Act.put, qa_, qb_, qc_, i64_w, i32_w]
                rfl
               refine pure_ (i := 48) (N := some 81) (v := ?_) (a' := ?_) spec_GrdOk.mk49 rfl rfl (any_of HT_.out (by kernel_rfl)) (fun _ _ _ h => h) (Or.inl ⟨by rfl, ?_⟩) ?_ ?_
               rotate_left
               ·intro w'
                go_simp
                with_reducible rfl
               rotate_left
               ·simp only [Act.put, qa_, qb_, qc_, i64_w, i32_w]
                rfl
               refine take_ (i := 49) (N := some 82) (v := ?_) (a' := ?_) spec_GrdOk.mk50 rfl rfl (take_ofW HT_.out HW_.out (by kernel_rfl)) (fun _ _ _ h => h) (Or.inl ⟨by rfl, ?_⟩) hHeld ?_ ?_
               rotate_left
               ·rintro w' ⟨s0, s1, s2, s3, s4, s5, s6, s7⟩
                go_simp
                with_reducible rfl
               rotate_left
               ·simp only [Act.put, qa_, qb_, qc_, i64_w, i32_w]
                rfl
               refine one_ (i := 50) (N := some 83) spec_GrdOk.mk51 rfl rfl (one_of HT_.out (by kernel_rfl)) (by decide) (fun K hK => ?_)
               refine goes_ Try.func40 (by kernel_rfl) rfl #[.slice (some ad300) y307.length c0_2, .agg #[.int .i64 ((rd_T65 l0_2 x3_2).f0), .int .i64 ((rd_T65 l0_2 x3_2).f1), .int .i64 ((rd_T65 l0_2 x3_2).f2), .int .i64 ((rd_T65 l0_2 x3_2).f3), .int .i64 ((rd_T65 l0_2 x3_2).f4)]] (by rfl) rfl rfl (by (try simp only [List.map_toArray, List.map_cons, List.map_nil]); first | done | rfl | (simp only [List.length_drop, List.length_take]; rfl)) ?_
               with_reducible refine (spec_l3Free.calls k2 _ _ y307 ((rd_T65 l0_2 x3_2).f0) ((rd_T65 l0_2 x3_2).f1) ((rd_T65 l0_2 x3_2).f2) ((rd_T65 l0_2 x3_2).f3) ((rd_T65 l0_2 x3_2).f4) false _ ?side1 ?side2 A26.out).mono ?_
               (case side1 => repeat (first | exact (Kd.C_below HR310.out (by repeat (first | (with_reducible first | exact HB.out | apply below_alloc | apply pw_below_drewN | apply below_drew1 | refine below_set ?_ GE297.out | refine below_set ?_ GE301.out) | exact HB.out))) | (with_reducible refine Kd.C_alloc ?_ _) | (with_reducible refine Kd.C_drewN ?_ _) | (with_reducible refine Kd.C_drew ?_)))
               (case side2 => exact HC310.out)
               rintro e w43 ⟨rfl, hb⟩
               refine ⟨_, rfl, ?_⟩
               have n0_ := Aside0.mk (blk_below (g := gb297) (o := .cells #[.int .i64 a0_0, .int .i64 a0_1, .slice (some ad300) l0_2.length c0_2] 42 (0, 0)) (by (with_reducible repeat (first | refine blk_drewN ?_ _ | refine blk_drew ?_ | refine blk_alloc ?_ _)); exact BK297.out) hb)
               have n1_ := Aside0.mk (blk_below (g := gb301) (o := .cells #[.int .i64 ((rd_T65 l0_2 x3_2).f0), .int .i64 ((rd_T65 l0_2 x3_2).f1), .int .i64 ((rd_T65 l0_2 x3_2).f2), .int .i64 ((rd_T65 l0_2 x3_2).f3), .int .i64 ((rd_T65 l0_2 x3_2).f4)] 65 (0, 0)) (by (with_reducible repeat (first | refine blk_drewN ?_ _ | refine blk_drew ?_ | refine blk_alloc ?_ _)); exact BK301.out) hb)
               have n2_ := Aside0.mk (below_step (by repeat (first | (with_reducible first | exact HB.out | apply below_alloc | apply pw_below_drewN | apply below_drew1 | refine below_set ?_ GE297.out | refine below_set ?_ GE301.out) | exact HB.out)) hb)
               clear BK297
               clear BK301
               clear HB
               have BK297 := n0_
               have BK301 := n1_
               have HB := n2_
               clear n0_ n1_ n2_
               (try clear hb)
               (try clear hb2)
               (try clear hk)
               (try clear hi)
               refine hK.out _ _ ⟨(blk_cell BK301.out 0).trans rfl, (blk_cell BK301.out 1).trans rfl, (blk_cell BK301.out 2).trans rfl, (blk_cell BK301.out 3).trans rfl, (blk_cell BK301.out 4).trans rfl, (blk_cell BK297.out 0).trans rfl, (blk_cell BK297.out 1).trans rfl, (blk_cell BK297.out 2).trans rfl⟩ (fun hHeld => ?_)
               clear hK K
               refine norm_ (a' := ?_) ?_ ?_
               rotate_left
               ·show Act.put _ (some 83) _ = _
                simp only [Act.put, qa_, qb_, qc_, i64_w, i32_w]
                rfl
               refine pure_ (i := 51) (N := some 84) (v := ?_) (a' := ?_) spec_GrdOk.mk52 rfl rfl (any_of HT_.out (by kernel_rfl)) (fun _ _ _ h => h) (Or.inl ⟨by rfl, ?_⟩) ?_ ?_
               rotate_left
               ·intro w'
                go_simp
                with_reducible rfl
               rotate_left
               ·simp only [Act.put, qa_, qb_, qc_, i64_w, i32_w]
                rfl
               refine pure_ (i := 52) (N := some 85) (v := ?_) (a' := ?_) spec_GrdOk.mk53 rfl rfl (any_of HT_.out (by kernel_rfl)) (fun _ _ _ h => h) (Or.inl ⟨by rfl, ?_⟩) ?_ ?_
               rotate_left
               ·intro w'
                go_simp
                with_reducible rfl
               rotate_left
               ·simp only [Act.put, qa_, qb_, qc_, i64_w, i32_w]
                rfl
               refine done_ (done_of HT_.out (by kernel_rfl)) ?_
               try go_wp2
               go_ret
               exact ⟨by first | rfl | (simp [errW_none, errW_some] <;> rfl) | (simp [*, errW_none, errW_some] <;> rfl), by repeat (first | (with_reducible first | exact HB.out | apply below_alloc | apply pw_below_drewN | apply below_drew1 | refine below_set ?_ GE297.out | refine below_set ?_ GE301.out) | exact HB.out)⟩
             ·rw [if_neg c25] at H
              exact absurd H (by simp)
            ·replace c23 := Bool.eq_false_iff.mpr c23
             subst c23
             have H1 : (some false) = some r := by rw [if_neg (show ¬ (false = true) by decide)] at H; exact H
             clear H
             have H := H1
             clear H1
             obtain rfl := Option.some.inj H
             have hcz44_0 : wr.cell? ⟨gb297, 0, none⟩ = some (.int .i64 a0_0) := (blk_cell BK297.out 0).trans rfl
             have hcz44_1 : wr.cell? ⟨gb297, 1, none⟩ = some (.int .i64 a0_1) := (blk_cell BK297.out 1).trans rfl
             have hcz44_2 : wr.cell? ⟨gb297, 2, none⟩ = some (.slice A0_2 l0_2.length c0_2) := (blk_cell BK297.out 2).trans rfl
             have hfz44_0 := blk_frozen BK297.out 0
             have hfz44_1 := blk_frozen BK297.out 1
             have hfz44_2 := blk_frozen BK297.out 2
             have p300 : 0 ≤ (x3_2 : Int) := of_decide_eq_true (by first | (with_reducible assumption) | assumption)
             have q300 : x3_2 < (l0_2.length : Int) := of_decide_eq_true (by first | (with_reducible assumption) | assumption)
             obtain ⟨ad300, e300, hx300_0, hx300_1, hx300_2, hx300_3, hx300_4⟩ := at_T65 HR0_2.out x3_2 p300 q300
             cases e300
             replace hx300_0 := (HB.out.cell (World.block_lt_of_cell? w _ hx300_0)).trans hx300_0
             replace hx300_1 := (HB.out.cell (World.block_lt_of_cell? w _ hx300_1)).trans hx300_1
             replace hx300_2 := (HB.out.cell (World.block_lt_of_cell? w _ hx300_2)).trans hx300_2
             replace hx300_3 := (HB.out.cell (World.block_lt_of_cell? w _ hx300_3)).trans hx300_3
             replace hx300_4 := (HB.out.cell (World.block_lt_of_cell? w _ hx300_4)).trans hx300_4
             replace p300 := eq_true p300
             replace q300 := eq_true q300
             try go_wp2_with (first | ((with_reducible refine gate_dst (N := 4) rfl ?_); (try (refine gate_guard (by rfl) ?_; dsimp only)); refine box_event ?hg (N := 4) ?hd (cs := #[.int .i64 0, .int .i64 0, .int .i64 0, .int .i64 0, .int .i64 0]) (t := 65) ?hr ?_; (case hd => rfl); (case hg => rfl); (case hr => first | (go_simp; done) | (go_simp; rfl)); intro gb301 hg w45 hbox hb; have n0_ := Aside0.mk (blk_below (g := gb297) (o := .cells #[.int .i64 a0_0, .int .i64 a0_1, .slice (some ad300) l0_2.length c0_2] 42 (0, 0)) (by (with_reducible repeat (first | refine blk_drewN ?_ _ | refine blk_drew ?_ | refine blk_alloc ?_ _)); exact BK297.out) hb); have n1_ := Aside0.mk (below_step (by repeat (first | (with_reducible first | exact HB.out | apply below_alloc | apply pw_below_drewN | apply below_drew1 | refine below_set ?_ GE297.out) | exact HB.out)) hb); have n2_ := Aside0.mk (hbox); have n3_ := Aside0.mk ((by rw [hg]; exact (below_size (by repeat (first | (with_reducible first | exact HB.out | apply below_alloc | apply pw_below_drewN | apply below_drew1 | refine below_set ?_ GE297.out) | exact HB.out))) : w.heap.size ≤ gb301)); have n4_ := Aside0.mk ((by rw [hg]; exact (below_size (by repeat (first | (with_reducible first | exact HB.out | apply below_alloc | apply pw_below_drewN | apply below_drew1 | refine below_set ?_ GE297.out) | exact HB.out))) : w.heap.size ≤ gb301)); have n5_ := Aside0.mk ((by rw [hg]; exact Nat.ne_of_lt (blk_lt (g := gb297) (o := .cells #[.int .i64 a0_0, .int .i64 a0_1, .slice (some ad300) l0_2.length c0_2] 42 (0, 0)) (by (with_reducible repeat (first | refine blk_drewN ?_ _ | refine blk_drew ?_ | refine blk_alloc ?_ _)); exact BK297.out)) : gb297 ≠ gb301)); have n6_ := Aside0.mk ((by rw [hg]; exact Nat.ne_of_gt (blk_lt (g := gb297) (o := .cells #[.int .i64 a0_0, .int .i64 a0_1, .slice (some ad300) l0_2.length c0_2] 42 (0, 0)) (by (with_reducible repeat (first | refine blk_drewN ?_ _ | refine blk_drew ?_ | refine blk_alloc ?_ _)); exact BK297.out)) : gb301 ≠ gb297)); clear BK297; clear HB; have BK297 := n0_; have HB := n1_; have BK301 := n2_; have GW301 := n3_; have GE301 := n4_; have NB297_301 := n5_; have NB301_297 := n6_; clear n0_ n1_ n2_ n3_ n4_ n5_ n6_; clear hb hbox hg; have hnb46 := NB301_297.out; have hnc46 := NB297_301.out; have hcz47_0 : w45.cell? ⟨gb301, 0, none⟩ = some (.int .i64 0) := (blk_cell BK301.out 0).trans rfl; have hcz47_1 : w45.cell? ⟨gb301, 1, none⟩ = some (.int .i64 0) := (blk_cell BK301.out 1).trans rfl; have hcz47_2 : w45.cell? ⟨gb301, 2, none⟩ = some (.int .i64 0) := (blk_cell BK301.out 2).trans rfl; have hcz47_3 : w45.cell? ⟨gb301, 3, none⟩ = some (.int .i64 0) := (blk_cell BK301.out 3).trans rfl; have hcz47_4 : w45.cell? ⟨gb301, 4, none⟩ = some (.int .i64 0) := (blk_cell BK301.out 4).trans rfl; have hfz47_0 := blk_frozen BK301.out 0; have hfz47_1 := blk_frozen BK301.out 1; have hfz47_2 := blk_frozen BK301.out 2; have hfz47_3 := blk_frozen BK301.out 3; have hfz47_4 := blk_frozen BK301.out 4))
             have n0_ : Aside0 ((((((w45.setCell ⟨gb301, 0, none⟩ (.int .i64 ((rd_T65 l0_2 x3_2).f0))).setCell ⟨gb301, 1, none⟩ (.int .i64 ((rd_T65 l0_2 x3_2).f1))).setCell ⟨gb301, 2, none⟩ (.int .i64 ((rd_T65 l0_2 x3_2).f2))).setCell ⟨gb301, 3, none⟩ (.int .i64 ((rd_T65 l0_2 x3_2).f3))).setCell ⟨gb301, 4, none⟩ (.int .i64 ((rd_T65 l0_2 x3_2).f4))).heap[gb297]? = some (.cells #[.int .i64 a0_0, .int .i64 a0_1, .slice (some ad300) l0_2.length c0_2] 42 (0, 0))) := ⟨by (with_reducible repeat (first | refine blk_drewN ?_ _ | refine blk_drew ?_ | refine blk_alloc ?_ _)); refine blk_far ?_ NB297_301.out _; (with_reducible repeat (first | refine blk_drewN ?_ _ | refine blk_drew ?_ | refine blk_alloc ?_ _)); refine blk_far ?_ NB297_301.out _; (with_reducible repeat (first | refine blk_drewN ?_ _ | refine blk_drew ?_ | refine blk_alloc ?_ _)); refine blk_far ?_ NB297_301.out _; (with_reducible repeat (first | refine blk_drewN ?_ _ | refine blk_drew ?_ | refine blk_alloc ?_ _)); refine blk_far ?_ NB297_301.out _; (with_reducible repeat (first | refine blk_drewN ?_ _ | refine blk_drew ?_ | refine blk_alloc ?_ _)); refine blk_far ?_ NB297_301.out _; (with_reducible repeat (first | refine blk_drewN ?_ _ | refine blk_drew ?_ | refine blk_alloc ?_ _)); exact BK297.out⟩
             have n1_ : Aside0 ((((((w45.setCell ⟨gb301, 0, none⟩ (.int .i64 ((rd_T65 l0_2 x3_2).f0))).setCell ⟨gb301, 1, none⟩ (.int .i64 ((rd_T65 l0_2 x3_2).f1))).setCell ⟨gb301, 2, none⟩ (.int .i64 ((rd_T65 l0_2 x3_2).f2))).setCell ⟨gb301, 3, none⟩ (.int .i64 ((rd_T65 l0_2 x3_2).f3))).setCell ⟨gb301, 4, none⟩ (.int .i64 ((rd_T65 l0_2 x3_2).f4))).heap[gb301]? = some (.cells #[.int .i64 ((rd_T65 l0_2 x3_2).f0), .int .i64 ((rd_T65 l0_2 x3_2).f1), .int .i64 ((rd_T65 l0_2 x3_2).f2), .int .i64 ((rd_T65 l0_2 x3_2).f3), .int .i64 ((rd_T65 l0_2 x3_2).f4)] 65 (0, 0))) := ⟨by (with_reducible repeat (first | refine blk_drewN ?_ _ | refine blk_drew ?_ | refine blk_alloc ?_ _)); refine blk_put (cs := #[.int .i64 ((rd_T65 l0_2 x3_2).f0), .int .i64 ((rd_T65 l0_2 x3_2).f1), .int .i64 ((rd_T65 l0_2 x3_2).f2), .int .i64 ((rd_T65 l0_2 x3_2).f3), .int .i64 0]) ?_ 4 _ rfl; (with_reducible repeat (first | refine blk_drewN ?_ _ | refine blk_drew ?_ | refine blk_alloc ?_ _)); refine blk_put (cs := #[.int .i64 ((rd_T65 l0_2 x3_2).f0), .int .i64 ((rd_T65 l0_2 x3_2).f1), .int .i64 ((rd_T65 l0_2 x3_2).f2), .int .i64 0, .int .i64 0]) ?_ 3 _ rfl; (with_reducible repeat (first | refine blk_drewN ?_ _ | refine blk_drew ?_ | refine blk_alloc ?_ _)); refine blk_put (cs := #[.int .i64 ((rd_T65 l0_2 x3_2).f0), .int .i64 ((rd_T65 l0_2 x3_2).f1), .int .i64 0, .int .i64 0, .int .i64 0]) ?_ 2 _ rfl; (with_reducible repeat (first | refine blk_drewN ?_ _ | refine blk_drew ?_ | refine blk_alloc ?_ _)); refine blk_put (cs := #[.int .i64 ((rd_T65 l0_2 x3_2).f0), .int .i64 0, .int .i64 0, .int .i64 0, .int .i64 0]) ?_ 1 _ rfl; (with_reducible repeat (first | refine blk_drewN ?_ _ | refine blk_drew ?_ | refine blk_alloc ?_ _)); refine blk_put (cs := #[.int .i64 0, .int .i64 0, .int .i64 0, .int .i64 0, .int .i64 0]) ?_ 0 _ rfl; (with_reducible repeat (first | refine blk_drewN ?_ _ | refine blk_drew ?_ | refine blk_alloc ?_ _)); exact BK301.out⟩
             have n2_ : Aside0 (Below w.heap.size w (((((w45.setCell ⟨gb301, 0, none⟩ (.int .i64 ((rd_T65 l0_2 x3_2).f0))).setCell ⟨gb301, 1, none⟩ (.int .i64 ((rd_T65 l0_2 x3_2).f1))).setCell ⟨gb301, 2, none⟩ (.int .i64 ((rd_T65 l0_2 x3_2).f2))).setCell ⟨gb301, 3, none⟩ (.int .i64 ((rd_T65 l0_2 x3_2).f3))).setCell ⟨gb301, 4, none⟩ (.int .i64 ((rd_T65 l0_2 x3_2).f4)))) := ⟨by repeat (first | (with_reducible first | exact HB.out | apply below_alloc | apply pw_below_drewN | apply below_drew1 | refine below_set ?_ GE297.out | refine below_set ?_ GE301.out) | exact HB.out)⟩
             (try clear BK297)
             (try clear BK301)
             (try clear HB)
             generalize (((((w45.setCell ⟨gb301, 0, none⟩ (.int .i64 ((rd_T65 l0_2 x3_2).f0))).setCell ⟨gb301, 1, none⟩ (.int .i64 ((rd_T65 l0_2 x3_2).f1))).setCell ⟨gb301, 2, none⟩ (.int .i64 ((rd_T65 l0_2 x3_2).f2))).setCell ⟨gb301, 3, none⟩ (.int .i64 ((rd_T65 l0_2 x3_2).f3))).setCell ⟨gb301, 4, none⟩ (.int .i64 ((rd_T65 l0_2 x3_2).f4))) = w48 at n0_ n1_ n2_ ⊢
             have BK297 := n0_
             have BK301 := n1_
             have HB := n2_
             clear n0_ n1_ n2_
             have n0_ := Aside0.mk (blk_drew BK297.out)
             have n1_ := Aside0.mk (blk_drew BK301.out)
             have n2_ := Aside0.mk (below_drew1 HB.out)
             clear BK297
             clear BK301
             clear HB
             have BK297 := n0_
             have BK301 := n1_
             have HB := n2_
             clear n0_ n1_ n2_
             refine start_ (n := 53) (S := fun w' => w'.cell? ⟨gb301, 0, none⟩ = some (.int .i64 ((rd_T65 l0_2 x3_2).f0)) ∧ w'.cell? ⟨gb301, 1, none⟩ = some (.int .i64 ((rd_T65 l0_2 x3_2).f1)) ∧ w'.cell? ⟨gb301, 2, none⟩ = some (.int .i64 ((rd_T65 l0_2 x3_2).f2)) ∧ w'.cell? ⟨gb301, 3, none⟩ = some (.int .i64 ((rd_T65 l0_2 x3_2).f3)) ∧ w'.cell? ⟨gb301, 4, none⟩ = some (.int .i64 ((rd_T65 l0_2 x3_2).f4)) ∧ w'.cell? ⟨gb297, 0, none⟩ = some (.int .i64 a0_0) ∧ w'.cell? ⟨gb297, 1, none⟩ = some (.int .i64 a0_1) ∧ w'.cell? ⟨gb297, 2, none⟩ = some (.slice (some ad300) l0_2.length c0_2)) (ds := []) spec_GrdOk.mk0 (by kernel_rfl) rfl rfl ⟨(blk_cell BK301.out 0).trans rfl, (blk_cell BK301.out 1).trans rfl, (blk_cell BK301.out 2).trans rfl, (blk_cell BK301.out 3).trans rfl, (blk_cell BK301.out 4).trans rfl, (blk_cell BK297.out 0).trans rfl, (blk_cell BK297.out 1).trans rfl, (blk_cell BK297.out 2).trans rfl⟩ (fun hHeld => ?_); refine with_tabW spec_GrdOk.tab7 spec_GrdOk.bits7 (fun HT_ HW_ => ?_)
             generalize w48.drew = w49 at BK297 BK301 HB hHeld ⊢
             refine pure_ (i := 0) (N := some 33) (v := ?_) (a' := ?_) spec_GrdOk.mk1 rfl rfl (any_of HT_.out (by kernel_rfl)) (fun _ _ _ h => h) (Or.inl ⟨by rfl, ?_⟩) ?_ ?_
             rotate_left
             ·intro w'
              go_simp
              with_reducible rfl
             rotate_left
             ·simp only [Act.put, qa_, qb_, qc_, i64_w, i32_w]
              rfl
             refine pure_ (i := 2) (N := some 35) (v := ?_) (a' := ?_) spec_GrdOk.mk2 rfl rfl (any_of HT_.out (by kernel_rfl)) (fun _ _ _ h => h) (Or.inl ⟨by rfl, ?_⟩) ?_ ?_
             rotate_left
             ·intro w'
              go_simp
              with_reducible rfl
             rotate_left
             ·simp only [Act.put, qa_, qb_, qc_, i64_w, i32_w]
              rfl
             refine take_ (i := 1) (N := some 34) (v := ?_) (a' := ?_) spec_GrdOk.mk3 rfl rfl (take_ofW HT_.out HW_.out (by kernel_rfl)) (fun _ _ _ h => h) (Or.inl ⟨by rfl, ?_⟩) hHeld ?_ ?_
             rotate_left
             ·rintro w' ⟨s0, s1, s2, s3, s4, s5, s6, s7⟩
              go_simp
              with_reducible rfl
             rotate_left
             ·simp only [Act.put, qa_, qb_, qc_, i64_w, i32_w]
              rfl
             refine take_ (i := 3) (N := some 36) (v := ?_) (a' := ?_) spec_GrdOk.mk4 rfl rfl (take_ofW HT_.out HW_.out (by kernel_rfl)) (fun _ _ _ h => h) (Or.inl ⟨by rfl, ?_⟩) hHeld ?_ ?_
             rotate_left
             ·rintro w' ⟨s0, s1, s2, s3, s4, s5, s6, s7⟩
              go_simp
              with_reducible rfl
             rotate_left
             ·simp only [Act.put, qa_, qb_, qc_, i64_w, i32_w]
              rfl
             refine pure_ (i := 4) (N := some 37) (v := ?_) (a' := ?_) spec_GrdOk.mk5 rfl rfl (any_of HT_.out (by kernel_rfl)) (fun _ _ _ h => h) (Or.inl ⟨by rfl, ?_⟩) ?_ ?_
             rotate_left
             ·intro w'
              go_simp
              with_reducible rfl
             rotate_left
             ·simp only [Act.put, qa_, qb_, qc_, i64_w, i32_w]
              rfl
             refine one_ (i := 5) (N := some 38) spec_GrdOk.mk6 rfl rfl (one_of HT_.out (by kernel_rfl)) (by decide) (fun K hK => ?_)
             refine goes_ Try.func39 (by kernel_rfl) rfl #[.int .i64 ((rd_T65 l0_2 x3_2).f0), .int .i64 0, .int .i64 (wrap64 (a0_0 - 1))] (by rfl) rfl rfl (by (try simp only [List.map_toArray, List.map_cons, List.map_nil]); first | done | rfl | (simp only [List.length_drop, List.length_take]; rfl)) ?_
             with_reducible refine (spec_l1In.calls ((rd_T65 l0_2 x3_2).f0) 0 (wrap64 (a0_0 - 1)) true _ A14.out).mono ?_
             rintro e w' ⟨rfl, ⟨nd, rfl⟩⟩
             refine ⟨_, rfl, ?_⟩
             refine hK.out _ _ ⟨(blk_cell BK301.out 0).trans rfl, (blk_cell BK301.out 1).trans rfl, (blk_cell BK301.out 2).trans rfl, (blk_cell BK301.out 3).trans rfl, (blk_cell BK301.out 4).trans rfl, (blk_cell BK297.out 0).trans rfl, (blk_cell BK297.out 1).trans rfl, (blk_cell BK297.out 2).trans rfl⟩ (fun hHeld => ?_)
             clear hK K
             refine norm_ (a' := ?_) ?_ ?_
             rotate_left
             ·show Act.put _ (some 38) _ = _
              simp only [Act.put, qa_, qb_, qc_, i64_w, i32_w]
              rfl
             refine pure_ (i := 6) (N := some 39) (v := ?_) (a' := ?_) spec_GrdOk.mk7 rfl rfl (any_of HT_.out (by kernel_rfl)) (fun _ _ _ h => h) (Or.inl ⟨by rfl, ?_⟩) ?_ ?_
             rotate_left
             ·intro w'
              go_simp
              with_reducible rfl
             rotate_left
             ·simp only [Act.put, qa_, qb_, qc_, i64_w, i32_w]
              rfl
             refine pure_ (i := 7) (N := some 40) (v := ?_) (a' := ?_) spec_GrdOk.mk8 rfl rfl (any_of HT_.out (by kernel_rfl)) (fun _ _ _ h => h) (Or.inl ⟨by rfl, ?_⟩) ?_ ?_
             rotate_left
             ·intro w'
              go_simp
              with_reducible rfl
             rotate_left
             ·simp only [Act.put, qa_, qb_, qc_, i64_w, i32_w]
              rfl
             refine pure_ (i := 8) (N := some 41) (v := ?_) (a' := ?_) spec_GrdOk.mk9 rfl rfl (any_of HT_.out (by kernel_rfl)) (fun _ _ _ h => h) (Or.inl ⟨by rfl, ?_⟩) ?_ ?_
             rotate_left
             ·intro w'
              go_simp
              with_reducible rfl
             rotate_left
             ·simp only [Act.put, qa_, qb_, qc_, i64_w, i32_w]
              rfl
             refine pure_ (i := 10) (N := some 43) (v := ?_) (a' := ?_) spec_GrdOk.mk10 rfl rfl (any_of HT_.out (by kernel_rfl)) (fun _ _ _ h => h) (Or.inl ⟨by rfl, ?_⟩) ?_ ?_
             rotate_left
             ·intro w'
              go_simp
              with_reducible rfl
             rotate_left
             ·simp only [Act.put, qa_, qb_, qc_, i64_w, i32_w]
              rfl
             refine take_ (i := 9) (N := some 42) (v := ?_) (a' := ?_) spec_GrdOk.mk11 rfl rfl (take_ofW HT_.out HW_.out (by kernel_rfl)) (fun _ _ _ h => h) (Or.inl ⟨by rfl, ?_⟩) hHeld ?_ ?_
             rotate_left
             ·rintro w' ⟨s0, s1, s2, s3, s4, s5, s6, s7⟩
              go_simp
              with_reducible rfl
             rotate_left
             ·simp only [Act.put, qa_, qb_, qc_, i64_w, i32_w]
              rfl
             refine take_ (i := 11) (N := some 44) (v := ?_) (a' := ?_) spec_GrdOk.mk12 rfl rfl (take_ofW HT_.out HW_.out (by kernel_rfl)) (fun _ _ _ h => h) (Or.inl ⟨by rfl, ?_⟩) hHeld ?_ ?_
             rotate_left
             ·rintro w' ⟨s0, s1, s2, s3, s4, s5, s6, s7⟩
              go_simp
              with_reducible rfl
             rotate_left
             ·simp only [Act.put, qa_, qb_, qc_, i64_w, i32_w]
              rfl
             refine pure_ (i := 12) (N := some 45) (v := ?_) (a' := ?_) spec_GrdOk.mk13 rfl rfl (any_of HT_.out (by kernel_rfl)) (fun _ _ _ h => h) (Or.inl ⟨by rfl, ?_⟩) ?_ ?_
             rotate_left
             ·intro w'
              go_simp
              with_reducible rfl
             rotate_left
             ·simp only [Act.put, qa_, qb_, qc_, i64_w, i32_w]
              rfl
             refine one_ (i := 13) (N := some 46) spec_GrdOk.mk14 rfl rfl (one_of HT_.out (by kernel_rfl)) (by decide) (fun K hK => ?_)
             refine goes_ Try.func39 (by kernel_rfl) rfl #[.int .i64 ((rd_T65 l0_2 x3_2).f1), .int .i64 0, .int .i64 (wrap64 (a0_1 - 1))] (by rfl) rfl rfl (by (try simp only [List.map_toArray, List.map_cons, List.map_nil]); first | done | rfl | (simp only [List.length_drop, List.length_take]; rfl)) ?_
             with_reducible refine (spec_l1In.calls ((rd_T65 l0_2 x3_2).f1) 0 (wrap64 (a0_1 - 1)) true _ A16.out).mono ?_
             rintro e w' ⟨rfl, ⟨nd, rfl⟩⟩
             refine ⟨_, rfl, ?_⟩
             refine hK.out _ _ ⟨(blk_cell BK301.out 0).trans rfl, (blk_cell BK301.out 1).trans rfl, (blk_cell BK301.out 2).trans rfl, (blk_cell BK301.out 3).trans rfl, (blk_cell BK301.out 4).trans rfl, (blk_cell BK297.out 0).trans rfl, (blk_cell BK297.out 1).trans rfl, (blk_cell BK297.out 2).trans rfl⟩ (fun hHeld => ?_)
             clear hK K
             refine norm_ (a' := ?_) ?_ ?_
             rotate_left
             ·show Act.put _ (some 46) _ = _
              simp only [Act.put, qa_, qb_, qc_, i64_w, i32_w]
              rfl
             refine pure_ (i := 14) (N := some 47) (v := ?_) (a' := ?_) spec_GrdOk.mk15 rfl rfl (any_of HT_.out (by kernel_rfl)) (fun _ _ _ h => h) (Or.inl ⟨by rfl, ?_⟩) ?_ ?_
             rotate_left
             ·intro w'
              go_simp
              with_reducible rfl
             rotate_left
             ·simp only [Act.put, qa_, qb_, qc_, i64_w, i32_w]
              rfl
             refine pure_ (i := 15) (N := some 48) (v := ?_) (a' := ?_) spec_GrdOk.mk16 rfl rfl (any_of HT_.out (by kernel_rfl)) (fun _ _ _ h => h) (Or.inl ⟨by rfl, ?_⟩) ?_ ?_
             rotate_left
             ·intro w'
              go_simp
              with_reducible rfl
             rotate_left
             ·simp only [Act.put, qa_, qb_, qc_, i64_w, i32_w]
              rfl
             refine pure_ (i := 16) (N := some 49) (v := ?_) (a' := ?_) spec_GrdOk.mk17 rfl rfl (any_of HT_.out (by kernel_rfl)) (fun _ _ _ h => h) (Or.inl ⟨by rfl, ?_⟩) ?_ ?_
             rotate_left
             ·intro w'
              go_simp
              with_reducible rfl
             rotate_left
             ·simp only [Act.put, qa_, qb_, qc_, i64_w, i32_w]
              rfl
             refine pure_ (i := 17) (N := some 50) (v := ?_) (a' := ?_) spec_GrdOk.mk18 rfl rfl (any_of HT_.out (by kernel_rfl)) (fun _ _ _ h => h) (Or.inl ⟨by rfl, ?_⟩) ?_ ?_
             rotate_left
             ·intro w'
              go_simp
              with_reducible rfl
             rotate_left
             ·simp only [Act.put, qa_, qb_, qc_, i64_w, i32_w]
              rfl
             refine pure_ (i := 19) (N := some 52) (v := ?_) (a' := ?_) spec_GrdOk.mk19 rfl rfl (any_of HT_.out (by kernel_rfl)) (fun _ _ _ h => h) (Or.inl ⟨by rfl, ?_⟩) ?_ ?_
             rotate_left
             ·intro w'
              go_simp
              with_reducible rfl
             rotate_left
             ·simp only [Act.put, qa_, qb_, qc_, i64_w, i32_w]
              rfl
             refine pure_ (i := 21) (N := some 54) (v := ?_) (a' := ?_) spec_GrdOk.mk20 rfl rfl (any_of HT_.out (by kernel_rfl)) (fun _ _ _ h => h) (Or.inl ⟨by rfl, ?_⟩) ?_ ?_
             rotate_left
             ·intro w'
              go_simp
              with_reducible rfl
             rotate_left
             ·simp only [Act.put, qa_, qb_, qc_, i64_w, i32_w]
              rfl
             refine take_ (i := 18) (N := some 51) (v := ?_) (a' := ?_) spec_GrdOk.mk21 rfl rfl (take_ofW HT_.out HW_.out (by kernel_rfl)) (fun _ _ _ h => h) (Or.inl ⟨by rfl, ?_⟩) hHeld ?_ ?_
             rotate_left
             ·rintro w' ⟨s0, s1, s2, s3, s4, s5, s6, s7⟩
              go_simp
              with_reducible rfl
             rotate_left
             ·simp only [Act.put, qa_, qb_, qc_, i64_w, i32_w]
              rfl
             refine take_ (i := 20) (N := some 53) (v := ?_) (a' := ?_) spec_GrdOk.mk22 rfl rfl (take_ofW HT_.out HW_.out (by kernel_rfl)) (fun _ _ _ h => h) (Or.inl ⟨by rfl, ?_⟩) hHeld ?_ ?_
             rotate_left
             ·rintro w' ⟨s0, s1, s2, s3, s4, s5, s6, s7⟩
              go_simp
              with_reducible rfl
             rotate_left
             ·simp only [Act.put, qa_, qb_, qc_, i64_w, i32_w]
              rfl
             refine take_ (i := 22) (N := some 55) (v := ?_) (a' := ?_) spec_GrdOk.mk23 rfl rfl (take_ofW HT_.out HW_.out (by kernel_rfl)) (fun _ _ _ h => h) (Or.inl ⟨by rfl, ?_⟩) hHeld ?_ ?_
             rotate_left
             ·rintro w' ⟨s0, s1, s2, s3, s4, s5, s6, s7⟩
              go_simp
              with_reducible rfl
             rotate_left
             ·simp only [Act.put, qa_, qb_, qc_, i64_w, i32_w]
              rfl
             refine pure_ (i := 23) (N := some 56) (v := ?_) (a' := ?_) spec_GrdOk.mk24 rfl rfl (any_of HT_.out (by kernel_rfl)) (fun _ _ _ h => h) (Or.inl ⟨by rfl, ?_⟩) ?_ ?_
             rotate_left
             ·intro w'
              go_simp
              with_reducible rfl
             rotate_left
             ·simp only [Act.put, qa_, qb_, qc_, i64_w, i32_w]
              rfl
             refine one_ (i := 24) (N := some 57) spec_GrdOk.mk25 rfl rfl (one_of HT_.out (by kernel_rfl)) (by decide) (fun K hK => ?_)
             refine goes_ Try.func39 (by kernel_rfl) rfl #[.int .i64 ((rd_T65 l0_2 x3_2).f2), .int .i64 1, .int .i64 (wrap64 (a0_0 - ((rd_T65 l0_2 x3_2).f0)))] (by rfl) rfl rfl (by (try simp only [List.map_toArray, List.map_cons, List.map_nil]); first | done | rfl | (simp only [List.length_drop, List.length_take]; rfl)) ?_
             with_reducible refine (spec_l1In.calls ((rd_T65 l0_2 x3_2).f2) 1 (wrap64 (a0_0 - ((rd_T65 l0_2 x3_2).f0))) true _ A18.out).mono ?_
             rintro e w' ⟨rfl, ⟨nd, rfl⟩⟩
             refine ⟨_, rfl, ?_⟩
             refine hK.out _ _ ⟨(blk_cell BK301.out 0).trans rfl, (blk_cell BK301.out 1).trans rfl, (blk_cell BK301.out 2).trans rfl, (blk_cell BK301.out 3).trans rfl, (blk_cell BK301.out 4).trans rfl, (blk_cell BK297.out 0).trans rfl, (blk_cell BK297.out 1).trans rfl, (blk_cell BK297.out 2).trans rfl⟩ (fun hHeld => ?_)
             clear hK K
             refine norm_ (a' := ?_) ?_ ?_
             rotate_left
             ·show Act.put _ (some 57) _ = _
              simp only [Act.put, qa_, qb_, qc_, i64_w, i32_w]
              rfl
             refine pure_ (i := 25) (N := some 58) (v := ?_) (a' := ?_) spec_GrdOk.mk26 rfl rfl (any_of HT_.out (by kernel_rfl)) (fun _ _ _ h => h) (Or.inl ⟨by rfl, ?_⟩) ?_ ?_
             rotate_left
             ·intro w'
              go_simp
              with_reducible rfl
             rotate_left
             ·simp only [Act.put, qa_, qb_, qc_, i64_w, i32_w]
              rfl
             refine pure_ (i := 26) (N := some 59) (v := ?_) (a' := ?_) spec_GrdOk.mk27 rfl rfl (any_of HT_.out (by kernel_rfl)) (fun _ _ _ h => h) (Or.inl ⟨by rfl, ?_⟩) ?_ ?_
             rotate_left
             ·intro w'
              go_simp
              with_reducible rfl
             rotate_left
             ·simp only [Act.put, qa_, qb_, qc_, i64_w, i32_w]
              rfl
             refine pure_ (i := 27) (N := some 60) (v := ?_) (a' := ?_) spec_GrdOk.mk28 rfl rfl (any_of HT_.out (by kernel_rfl)) (fun _ _ _ h => h) (Or.inl ⟨by rfl, ?_⟩) ?_ ?_
             rotate_left
             ·intro w'
              go_simp
              with_reducible rfl
             rotate_left
             ·simp only [Act.put, qa_, qb_, qc_, i64_w, i32_w]
              rfl
             refine pure_ (i := 28) (N := some 61) (v := ?_) (a' := ?_) spec_GrdOk.mk29 rfl rfl (any_of HT_.out (by kernel_rfl)) (fun _ _ _ h => h) (Or.inl ⟨by rfl, ?_⟩) ?_ ?_
             rotate_left
             ·intro w'
              go_simp
              with_reducible rfl
             rotate_left
             ·simp only [Act.put, qa_, qb_, qc_, i64_w, i32_w]
              rfl
             refine pure_ (i := 30) (N := some 63) (v := ?_) (a' := ?_) spec_GrdOk.mk30 rfl rfl (any_of HT_.out (by kernel_rfl)) (fun _ _ _ h => h) (Or.inl ⟨by rfl, ?_⟩) ?_ ?_
             rotate_left
             ·intro w'
              go_simp
              with_reducible rfl
             rotate_left
             ·simp only [Act.put, qa_, qb_, qc_, i64_w, i32_w]
              rfl
             refine pure_ (i := 32) (N := some 65) (v := ?_) (a' := ?_) spec_GrdOk.mk31 rfl rfl (any_of HT_.out (by kernel_rfl)) (fun _ _ _ h => h) (Or.inl ⟨by rfl, ?_⟩) ?_ ?_
             rotate_left
             ·intro w'
              go_simp
              with_reducible rfl
             rotate_left
             ·simp only [Act.put, qa_, qb_, qc_, i64_w, i32_w]
              rfl
             refine take_ (i := 29) (N := some 62) (v := ?_) (a' := ?_) spec_GrdOk.mk32 rfl rfl (take_ofW HT_.out HW_.out (by kernel_rfl)) (fun _ _ _ h => h) (Or.inl ⟨by rfl, ?_⟩) hHeld ?_ ?_
             rotate_left
             ·rintro w' ⟨s0, s1, s2, s3, s4, s5, s6, s7⟩
              go_simp
              with_reducible rfl
             rotate_left
             ·simp only [Act.put, qa_, qb_, qc_, i64_w, i32_w]
              rfl
             refine take_ (i := 31) (N := some 64) (v := ?_) (a' := ?_) spec_GrdOk.mk33 rfl rfl (take_ofW HT_.out HW_.out (by kernel_rfl)) (fun _ _ _ h => h) (Or.inl ⟨by rfl, ?_⟩) hHeld ?_ ?_
             rotate_left
             ·rintro w' ⟨s0, s1, s2, s3, s4, s5, s6, s7⟩
              go_simp
              with_reducible rfl
             rotate_left
             ·simp only [Act.put, qa_, qb_, qc_, i64_w, i32_w]
              rfl
             refine take_ (i := 33) (N := some 66) (v := ?_) (a' := ?_) spec_GrdOk.mk34 rfl rfl (take_ofW HT_.out HW_.out (by kernel_rfl)) (fun _ _ _ h => h) (Or.inl ⟨by rfl, ?_⟩) hHeld ?_ ?_
             rotate_left
             ·rintro w' ⟨s0, s1, s2, s3, s4, s5, s6, s7⟩
              go_simp
              with_reducible rfl
             rotate_left
             ·simp only [Act.put, qa_, qb_, qc_, i64_w, i32_w]
              rfl
             refine pure_ (i := 34) (N := some 67) (v := ?_) (a' := ?_) spec_GrdOk.mk35 rfl rfl (any_of HT_.out (by kernel_rfl)) (fun _ _ _ h => h) (Or.inl ⟨by rfl, ?_⟩) ?_ ?_
             rotate_left
             ·intro w'
              go_simp
              with_reducible rfl
             rotate_left
             ·simp only [Act.put, qa_, qb_, qc_, i64_w, i32_w]
              rfl
             refine one_ (i := 35) (N := some 68) spec_GrdOk.mk36 rfl rfl (one_of HT_.out (by kernel_rfl)) (by decide) (fun K hK => ?_)
             refine goes_ Try.func39 (by kernel_rfl) rfl #[.int .i64 ((rd_T65 l0_2 x3_2).f3), .int .i64 1, .int .i64 (wrap64 (a0_1 - ((rd_T65 l0_2 x3_2).f1)))] (by rfl) rfl rfl (by (try simp only [List.map_toArray, List.map_cons, List.map_nil]); first | done | rfl | (simp only [List.length_drop, List.length_take]; rfl)) ?_
             with_reducible refine (spec_l1In.calls ((rd_T65 l0_2 x3_2).f3) 1 (wrap64 (a0_1 - ((rd_T65 l0_2 x3_2).f1))) true _ A20.out).mono ?_
             rintro e w' ⟨rfl, ⟨nd, rfl⟩⟩
             refine ⟨_, rfl, ?_⟩
             refine hK.out _ _ ⟨(blk_cell BK301.out 0).trans rfl, (blk_cell BK301.out 1).trans rfl, (blk_cell BK301.out 2).trans rfl, (blk_cell BK301.out 3).trans rfl, (blk_cell BK301.out 4).trans rfl, (blk_cell BK297.out 0).trans rfl, (blk_cell BK297.out 1).trans rfl, (blk_cell BK297.out 2).trans rfl⟩ (fun hHeld => ?_)
             clear hK K
             refine norm_ (a' := ?_) ?_ ?_
             rotate_left
             ·show Act.put _ (some 68) _ = _
              simp only [Act.put, qa_, qb_, qc_, i64_w, i32_w]
              rfl
             refine pure_ (i := 36) (N := some 69) (v := ?_) (a' := ?_) spec_GrdOk.mk37 rfl rfl (any_of HT_.out (by kernel_rfl)) (fun _ _ _ h => h) (Or.inl ⟨by rfl, ?_⟩) ?_ ?_
             rotate_left
             ·intro w'
              go_simp
              with_reducible rfl
             rotate_left
             ·simp only [Act.put, qa_, qb_, qc_, i64_w, i32_w]
              rfl
             refine pure_ (i := 37) (N := some 70) (v := ?_) (a' := ?_) spec_GrdOk.mk38 rfl rfl (any_of HT_.out (by kernel_rfl)) (fun _ _ _ h => h) (Or.inl ⟨by rfl, ?_⟩) ?_ ?_
             rotate_left
             ·intro w'
              go_simp
              with_reducible rfl
             rotate_left
             ·simp only [Act.put, qa_, qb_, qc_, i64_w, i32_w]
              rfl
             refine pure_ (i := 38) (N := some 71) (v := ?_) (a' := ?_) spec_GrdOk.mk39 rfl rfl (any_of HT_.out (by kernel_rfl)) (fun _ _ _ h => h) (Or.inl ⟨by rfl, ?_⟩) ?_ ?_
             rotate_left
             ·intro w'
              go_simp
              with_reducible rfl
             rotate_left
             ·simp only [Act.put, qa_, qb_, qc_, i64_w, i32_w]
              rfl
             refine pure_ (i := 39) (N := some 72) (v := ?_) (a' := ?_) spec_GrdOk.mk40 rfl rfl (any_of HT_.out (by kernel_rfl)) (fun _ _ _ h => h) (Or.inl ⟨by rfl, ?_⟩) ?_ ?_
             rotate_left
             ·intro w'
              go_simp
              with_reducible rfl
             rotate_left
             ·simp only [Act.put, qa_, qb_, qc_, i64_w, i32_w]
              rfl
             refine take_ (i := 40) (N := some 73) (v := ?_) (a' := ?_) spec_GrdOk.mk41 rfl rfl (take_ofW HT_.out HW_.out (by kernel_rfl)) (fun _ _ _ h => h) (Or.inl ⟨by rfl, ?_⟩) hHeld ?_ ?_
             rotate_left
             ·rintro w' ⟨s0, s1, s2, s3, s4, s5, s6, s7⟩
              go_simp
              with_reducible rfl
             rotate_left
             ·simp only [Act.put, qa_, qb_, qc_, i64_w, i32_w]
              rfl
             refine one_ (i := 41) (N := some 74) spec_GrdOk.mk42 rfl rfl (one_of HT_.out (by kernel_rfl)) (by decide) (fun K hK => ?_)
             refine goes_ Try.func39 (by kernel_rfl) rfl #[.int .i64 ((rd_T65 l0_2 x3_2).f4), .int .i64 0, .int .i64 4] (by rfl) rfl rfl (by (try simp only [List.map_toArray, List.map_cons, List.map_nil]); first | done | rfl | (simp only [List.length_drop, List.length_take]; rfl)) ?_
             with_reducible refine (spec_l1In.calls ((rd_T65 l0_2 x3_2).f4) 0 4 false _ A22.out).mono ?_
             rintro e w' ⟨rfl, ⟨nd, rfl⟩⟩
             refine ⟨_, rfl, ?_⟩
             refine hK.out _ _ ⟨(blk_cell BK301.out 0).trans rfl, (blk_cell BK301.out 1).trans rfl, (blk_cell BK301.out 2).trans rfl, (blk_cell BK301.out 3).trans rfl, (blk_cell BK301.out 4).trans rfl, (blk_cell BK297.out 0).trans rfl, (blk_cell BK297.out 1).trans rfl, (blk_cell BK297.out 2).trans rfl⟩ (fun hHeld => ?_)
             clear hK K
             refine norm_ (a' := ?_) ?_ ?_
             rotate_left
             ·show Act.put _ (some 74) _ = _
              simp only [Act.put, qa_, qb_, qc_, i64_w, i32_w]
              rfl
             refine pure_ (i := 42) (N := some 75) (v := ?_) (a' := ?_) spec_GrdOk.mk43 rfl rfl (any_of HT_.out (by kernel_rfl)) (fun _ _ _ h => h) (Or.inl ⟨by rfl, ?_⟩) ?_ ?_
             rotate_left
             ·intro w'
              go_simp
              with_reducible rfl
             rotate_left
             ·simp only [Act.put, qa_, qb_, qc_, i64_w, i32_w]
              rfl
             refine pure_ (i := 43) (N := some 76) (v := ?_) (a' := ?_) spec_GrdOk.mk44 rfl rfl (any_of HT_.out (by kernel_rfl)) (fun _ _ _ h => h) (Or.inl ⟨by rfl, ?_⟩) ?_ ?_
             rotate_left
             ·intro w'
              go_simp
              with_reducible rfl
             rotate_left
             ·simp only [Act.put, qa_, qb_, qc_, i64_w, i32_w]
              rfl
             refine pure_ (i := 44) (N := some 77) (v := ?_) (a' := ?_) spec_GrdOk.mk45 rfl rfl (any_of HT_.out (by kernel_rfl)) (fun _ _ _ h => h) (Or.inl ⟨by rfl, ?_⟩) ?_ ?_
             rotate_left
             ·intro w'
              go_simp
              with_reducible rfl
             rotate_left
             ·simp only [Act.put, qa_, qb_, qc_, i64_w, i32_w]
              rfl
             refine pure_ (i := 45) (N := some 78) (v := undef) (a' := ?_) spec_GrdOk.mk46 rfl rfl (any_of HT_.out (by kernel_rfl)) (fun _ _ _ h => h) (Or.inr ⟨by rfl, rfl⟩) ?_ ?_
             rotate_left
             ·simp only [Act.put, qa_, qb_, qc_, i64_w, i32_w]
              rfl
             refine pure_ (i := 46) (N := some 79) (v := undef) (a' := ?_) spec_GrdOk.mk54 rfl rfl (any_of HT_.out (by kernel_rfl)) (fun _ _ _ h => h) (Or.inr ⟨by rfl, rfl⟩) ?_ ?_
             rotate_left
             ·simp only [Act.put, qa_, qb_, qc_, i64_w, i32_w]
              rfl
             refine pure_ (i := 47) (N := some 80) (v := undef) (a' := ?_) spec_GrdOk.mk48 rfl rfl (any_of HT_.out (by kernel_rfl)) (fun _ _ _ h => h) (Or.inr ⟨by rfl, rfl⟩) ?_ ?_
             rotate_left
             ·simp only [Act.put, qa_, qb_, qc_, i64_w, i32_w]
              rfl
             refine pure_ (i := 48) (N := some 81) (v := undef) (a' := ?_) spec_GrdOk.mk49 rfl rfl (any_of HT_.out (by kernel_rfl)) (fun _ _ _ h => h) (Or.inr ⟨by rfl, rfl⟩) ?_ ?_
             rotate_left
             ·simp only [Act.put, qa_, qb_, qc_, i64_w, i32_w]
              rfl
             refine pure_ (i := 49) (N := some 82) (v := undef) (a' := ?_) spec_GrdOk.mk50 rfl rfl (any_of HT_.out (by kernel_rfl)) (fun _ _ _ h => h) (Or.inr ⟨by rfl, rfl⟩) ?_ ?_
             rotate_left
             ·simp only [Act.put, qa_, qb_, qc_, i64_w, i32_w]
              rfl
             refine pure_ (i := 50) (N := some 83) (v := undef) (a' := ?_) spec_GrdOk.mk51 rfl rfl (any_of HT_.out (by kernel_rfl)) (fun _ _ _ h => h) (Or.inr ⟨by rfl, rfl⟩) ?_ ?_
             rotate_left
             ·simp only [Act.put, qa_, qb_, qc_, i64_w, i32_w]
              rfl
             refine pure_ (i := 51) (N := some 84) (v := undef) (a' := ?_) spec_GrdOk.mk52 rfl rfl (any_of HT_.out (by kernel_rfl)) (fun _ _ _ h => h) (Or.inr ⟨by rfl, rfl⟩) ?_ ?_
             rotate_left
             ·simp only [Act.put, qa_, qb_, qc_, i64_w, i32_w]
              rfl
             refine pure_ (i := 52) (N := some 85) (v := ?_) (a' := ?_) spec_GrdOk.mk53 rfl rfl (any_of HT_.out (by kernel_rfl)) (fun _ _ _ h => h) (Or.inl ⟨by rfl, ?_⟩) ?_ ?_
             rotate_left
             ·intro w'
              go_simp
              with_reducible rfl
             rotate_left
             ·simp only [Act.put, qa_, qb_, qc_, i64_w, i32_w]
              rfl
             refine done_ (done_of HT_.out (by kernel_rfl)) ?_
             try go_wp2
             go_ret
             exact ⟨by first | rfl | (simp [errW_none, errW_some] <;> rfl) | (simp [*, errW_none, errW_some] <;> rfl), by repeat (first | (with_reducible first | exact HB.out | apply below_alloc | apply pw_below_drewN | apply below_drew1 | refine below_set ?_ GE297.out | refine below_set ?_ GE301.out) | exact HB.out)⟩
           ·replace c21 := Bool.eq_false_iff.mpr c21
            subst c21
            have H1 : (some false) = some r := by rw [if_neg (show ¬ (false = true) by decide)] at H; exact H
            clear H
            have H := H1
            clear H1
            obtain rfl := Option.some.inj H
            have hcz50_0 : wr.cell? ⟨gb297, 0, none⟩ = some (.int .i64 a0_0) := (blk_cell BK297.out 0).trans rfl
            have hcz50_1 : wr.cell? ⟨gb297, 1, none⟩ = some (.int .i64 a0_1) := (blk_cell BK297.out 1).trans rfl
            have hcz50_2 : wr.cell? ⟨gb297, 2, none⟩ = some (.slice A0_2 l0_2.length c0_2) := (blk_cell BK297.out 2).trans rfl
            have hfz50_0 := blk_frozen BK297.out 0
            have hfz50_1 := blk_frozen BK297.out 1
            have hfz50_2 := blk_frozen BK297.out 2
            have p300 : 0 ≤ (x3_2 : Int) := of_decide_eq_true (by first | (with_reducible assumption) | assumption)
            have q300 : x3_2 < (l0_2.length : Int) := of_decide_eq_true (by first | (with_reducible assumption) | assumption)
            obtain ⟨ad300, e300, hx300_0, hx300_1, hx300_2, hx300_3, hx300_4⟩ := at_T65 HR0_2.out x3_2 p300 q300
            cases e300
            replace hx300_0 := (HB.out.cell (World.block_lt_of_cell? w _ hx300_0)).trans hx300_0
            replace hx300_1 := (HB.out.cell (World.block_lt_of_cell? w _ hx300_1)).trans hx300_1
            replace hx300_2 := (HB.out.cell (World.block_lt_of_cell? w _ hx300_2)).trans hx300_2
            replace hx300_3 := (HB.out.cell (World.block_lt_of_cell? w _ hx300_3)).trans hx300_3
            replace hx300_4 := (HB.out.cell (World.block_lt_of_cell? w _ hx300_4)).trans hx300_4
            replace p300 := eq_true p300
            replace q300 := eq_true q300
            try go_wp2_with (first | ((with_reducible refine gate_dst (N := 4) rfl ?_); (try (refine gate_guard (by rfl) ?_; dsimp only)); refine box_event ?hg (N := 4) ?hd (cs := #[.int .i64 0, .int .i64 0, .int .i64 0, .int .i64 0, .int .i64 0]) (t := 65) ?hr ?_; (case hd => rfl); (case hg => rfl); (case hr => first | (go_simp; done) | (go_simp; rfl)); intro gb301 hg w51 hbox hb; have n0_ := Aside0.mk (blk_below (g := gb297) (o := .cells #[.int .i64 a0_0, .int .i64 a0_1, .slice (some ad300) l0_2.length c0_2] 42 (0, 0)) (by (with_reducible repeat (first | refine blk_drewN ?_ _ | refine blk_drew ?_ | refine blk_alloc ?_ _)); exact BK297.out) hb); have n1_ := Aside0.mk (below_step (by repeat (first | (with_reducible first | exact HB.out | apply below_alloc | apply pw_below_drewN | apply below_drew1 | refine below_set ?_ GE297.out) | exact HB.out)) hb); have n2_ := Aside0.mk (hbox); have n3_ := Aside0.mk ((by rw [hg]; exact (below_size (by repeat (first | (with_reducible first | exact HB.out | apply below_alloc | apply pw_below_drewN | apply below_drew1 | refine below_set ?_ GE297.out) | exact HB.out))) : w.heap.size ≤ gb301)); have n4_ := Aside0.mk ((by rw [hg]; exact (below_size (by repeat (first | (with_reducible first | exact HB.out | apply below_alloc | apply pw_below_drewN | apply below_drew1 | refine below_set ?_ GE297.out) | exact HB.out))) : w.heap.size ≤ gb301)); have n5_ := Aside0.mk ((by rw [hg]; exact Nat.ne_of_lt (blk_lt (g := gb297) (o := .cells #[.int .i64 a0_0, .int .i64 a0_1, .slice (some ad300) l0_2.length c0_2] 42 (0, 0)) (by (with_reducible repeat (first | refine blk_drewN ?_ _ | refine blk_drew ?_ | refine blk_alloc ?_ _)); exact BK297.out)) : gb297 ≠ gb301)); have n6_ := Aside0.mk ((by rw [hg]; exact Nat.ne_of_gt (blk_lt (g := gb297) (o := .cells #[.int .i64 a0_0, .int .i64 a0_1, .slice (some ad300) l0_2.length c0_2] 42 (0, 0)) (by (with_reducible repeat (first | refine blk_drewN ?_ _ | refine blk_drew ?_ | refine blk_alloc ?_ _)); exact BK297.out)) : gb301 ≠ gb297)); clear BK297; clear HB; have BK297 := n0_; have HB := n1_; have BK301 := n2_; have GW301 := n3_; have GE301 := n4_; have NB297_301 := n5_; have NB301_297 := n6_; clear n0_ n1_ n2_ n3_ n4_ n5_ n6_; clear hb hbox hg; have hnb52 := NB301_297.out; have hnc52 := NB297_301.out; have hcz53_0 : w51.cell? ⟨gb301, 0, none⟩ = some (.int .i64 0) := (blk_cell BK301.out 0).trans rfl; have hcz53_1 : w51.cell? ⟨gb301, 1, none⟩ = some (.int .i64 0) := (blk_cell BK301.out 1).trans rfl; have hcz53_2 : w51.cell? ⟨gb301, 2, none⟩ = some (.int .i64 0) := (blk_cell BK301.out 2).trans rfl; have hcz53_3 : w51.cell? ⟨gb301, 3, none⟩ = some (.int .i64 0) := (blk_cell BK301.out 3).trans rfl; have hcz53_4 : w51.cell? ⟨gb301, 4, none⟩ = some (.int .i64 0) := (blk_cell BK301.out 4).trans rfl; have hfz53_0 := blk_frozen BK301.out 0; have hfz53_1 := blk_frozen BK301.out 1; have hfz53_2 := blk_frozen BK301.out 2; have hfz53_3 := blk_frozen BK301.out 3; have hfz53_4 := blk_frozen BK301.out 4))
            have n0_ : Aside0 ((((((w51.setCell ⟨gb301, 0, none⟩ (.int .i64 ((rd_T65 l0_2 x3_2).f0))).setCell ⟨gb301, 1, none⟩ (.int .i64 ((rd_T65 l0_2 x3_2).f1))).setCell ⟨gb301, 2, none⟩ (.int .i64 ((rd_T65 l0_2 x3_2).f2))).setCell ⟨gb301, 3, none⟩ (.int .i64 ((rd_T65 l0_2 x3_2).f3))).setCell ⟨gb301, 4, none⟩ (.int .i64 ((rd_T65 l0_2 x3_2).f4))).heap[gb297]? = some (.cells #[.int .i64 a0_0, .int .i64 a0_1, .slice (some ad300) l0_2.length c0_2] 42 (0, 0))) := ⟨by (with_reducible repeat (first | refine blk_drewN ?_ _ | refine blk_drew ?_ | refine blk_alloc ?_ _)); refine blk_far ?_ NB297_301.out _; (with_reducible repeat (first | refine blk_drewN ?_ _ | refine blk_drew ?_ | refine blk_alloc ?_ _)); refine blk_far ?_ NB297_301.out _; (with_reducible repeat (first | refine blk_drewN ?_ _ | refine blk_drew ?_ | refine blk_alloc ?_ _)); refine blk_far ?_ NB297_301.out _; (with_reducible repeat (first | refine blk_drewN ?_ _ | refine blk_drew ?_ | refine blk_alloc ?_ _)); refine blk_far ?_ NB297_301.out _; (with_reducible repeat (first | refine blk_drewN ?_ _ | refine blk_drew ?_ | refine blk_alloc ?_ _)); refine blk_far ?_ NB297_301.out _; (with_reducible repeat (first | refine blk_drewN ?_ _ | refine blk_drew ?_ | refine blk_alloc ?_ _)); exact BK297.out⟩
            have n1_ : Aside0 ((((((w51.setCell ⟨gb301, 0, none⟩ (.int .i64 ((rd_T65 l0_2 x3_2).f0))).setCell ⟨gb301, 1, none⟩ (.int .i64 ((rd_T65 l0_2 x3_2).f1))).setCell ⟨gb301, 2, none⟩ (.int .i64 ((rd_T65 l0_2 x3_2).f2))).setCell ⟨gb301, 3, none⟩ (.int .i64 ((rd_T65 l0_2 x3_2).f3))).setCell ⟨gb301, 4, none⟩ (.int .i64 ((rd_T65 l0_2 x3_2).f4))).heap[gb301]? = some (.cells #[.int .i64 ((rd_T65 l0_2 x3_2).f0), .int .i64 ((rd_T65 l0_2 x3_2).f1), .int .i64 ((rd_T65 l0_2 x3_2).f2), .int .i64 ((rd_T65 l0_2 x3_2).f3), .int .i64 ((rd_T65 l0_2 x3_2).f4)] 65 (0, 0))) := ⟨by (with_reducible repeat (first | refine blk_drewN ?_ _ | refine blk_drew ?_ | refine blk_alloc ?_ _)); refine blk_put (cs := #[.int .i64 ((rd_T65 l0_2 x3_2).f0), .int .i64 ((rd_T65 l0_2 x3_2).f1), .int .i64 ((rd_T65 l0_2 x3_2).f2), .int .i64 ((rd_T65 l0_2 x3_2).f3), .int .i64 0]) ?_ 4 _ rfl; (with_reducible repeat (first | refine blk_drewN ?_ _ | refine blk_drew ?_ | refine blk_alloc ?_ _)); refine blk_put (cs := #[.int .i64 ((rd_T65 l0_2 x3_2).f0), .int .i64 ((rd_T65 l0_2 x3_2).f1), .int .i64 ((rd_T65 l0_2 x3_2).f2), .int .i64 0, .int .i64 0]) ?_ 3 _ rfl; (with_reducible repeat (first | refine blk_drewN ?_ _ | refine blk_drew ?_ | refine blk_alloc ?_ _)); refine blk_put (cs := #[.int .i64 ((rd_T65 l0_2 x3_2).f0), .int .i64 ((rd_T65 l0_2 x3_2).f1), .int .i64 0, .int .i64 0, .int .i64 0]) ?_ 2 _ rfl; (with_reducible repeat (first | refine blk_drewN ?_ _ | refine blk_drew ?_ | refine blk_alloc ?_ _)); refine blk_put (cs := #[.int .i64 ((rd_T65 l0_2 x3_2).f0), .int .i64 0, .int .i64 0, .int .i64 0, .int .i64 0]) ?_ 1 _ rfl; (with_reducible repeat (first | refine blk_drewN ?_ _ | refine blk_drew ?_ | refine blk_alloc ?_ _)); refine blk_put (cs := #[.int .i64 0, .int .i64 0, .int .i64 0, .int .i64 0, .int .i64 0]) ?_ 0 _ rfl; (with_reducible repeat (first | refine blk_drewN ?_ _ | refine blk_drew ?_ | refine blk_alloc ?_ _)); exact BK301.out⟩
            have n2_ : Aside0 (Below w.heap.size w (((((w51.setCell ⟨gb301, 0, none⟩ (.int .i64 ((rd_T65 l0_2 x3_2).f0))).setCell ⟨gb301, 1, none⟩ (.int .i64 ((rd_T65 l0_2 x3_2).f1))).setCell ⟨gb301, 2, none⟩ (.int .i64 ((rd_T65 l0_2 x3_2).f2))).setCell ⟨gb301, 3, none⟩ (.int .i64 ((rd_T65 l0_2 x3_2).f3))).setCell ⟨gb301, 4, none⟩ (.int .i64 ((rd_T65 l0_2 x3_2).f4)))) := ⟨by repeat (first | (with_reducible first | exact HB.out | apply below_alloc | apply pw_below_drewN | apply below_drew1 | refine below_set ?_ GE297.out | refine below_set ?_ GE301.out) | exact HB.out)⟩
            (try clear BK297)
            (try clear BK301)
            (try clear HB)
            generalize (((((w51.setCell ⟨gb301, 0, none⟩ (.int .i64 ((rd_T65 l0_2 x3_2).f0))).setCell ⟨gb301, 1, none⟩ (.int .i64 ((rd_T65 l0_2 x3_2).f1))).setCell ⟨gb301, 2, none⟩ (.int .i64 ((rd_T65 l0_2 x3_2).f2))).setCell ⟨gb301, 3, none⟩ (.int .i64 ((rd_T65 l0_2 x3_2).f3))).setCell ⟨gb301, 4, none⟩ (.int .i64 ((rd_T65 l0_2 x3_2).f4))) = w54 at n0_ n1_ n2_ ⊢
            have BK297 := n0_
            have BK301 := n1_
            have HB := n2_
            clear n0_ n1_ n2_
            have n0_ := Aside0.mk (blk_drew BK297.out)
            have n1_ := Aside0.mk (blk_drew BK301.out)
            have n2_ := Aside0.mk (below_drew1 HB.out)
            clear BK297
            clear BK301
            clear HB
            have BK297 := n0_
            have BK301 := n1_
            have HB := n2_
            clear n0_ n1_ n2_
            refine start_ (n := 53) (S := fun w' => w'.cell? ⟨gb301, 0, none⟩ = some (.int .i64 ((rd_T65 l0_2 x3_2).f0)) ∧ w'.cell? ⟨gb301, 1, none⟩ = some (.int .i64 ((rd_T65 l0_2 x3_2).f1)) ∧ w'.cell? ⟨gb301, 2, none⟩ = some (.int .i64 ((rd_T65 l0_2 x3_2).f2)) ∧ w'.cell? ⟨gb301, 3, none⟩ = some (.int .i64 ((rd_T65 l0_2 x3_2).f3)) ∧ w'.cell? ⟨gb301, 4, none⟩ = some (.int .i64 ((rd_T65 l0_2 x3_2).f4)) ∧ w'.cell? ⟨gb297, 0, none⟩ = some (.int .i64 a0_0) ∧ w'.cell? ⟨gb297, 1, none⟩ = some (.int .i64 a0_1) ∧ w'.cell? ⟨gb297, 2, none⟩ = some (.slice (some ad300) l0_2.length c0_2)) (ds := []) spec_GrdOk.mk0 (by kernel_rfl) rfl rfl ⟨(blk_cell BK301.out 0).trans rfl, (blk_cell BK301.out 1).trans rfl, (blk_cell BK301.out 2).trans rfl, (blk_cell BK301.out 3).trans rfl, (blk_cell BK301.out 4).trans rfl, (blk_cell BK297.out 0).trans rfl, (blk_cell BK297.out 1).trans rfl, (blk_cell BK297.out 2).trans rfl⟩ (fun hHeld => ?_); refine with_tabW spec_GrdOk.tab7 spec_GrdOk.bits7 (fun HT_ HW_ => ?_)
            generalize w54.drew = w55 at BK297 BK301 HB hHeld ⊢
            refine pure_ (i := 0) (N := some 33) (v := ?_) (a' := ?_) spec_GrdOk.mk1 rfl rfl (any_of HT_.out (by kernel_rfl)) (fun _ _ _ h => h) (Or.inl ⟨by rfl, ?_⟩) ?_ ?_
            rotate_left
            ·intro w'
             go_simp
             with_reducible rfl
            rotate_left
            ·simp only [Act.put, qa_, qb_, qc_, i64_w, i32_w]
             rfl
            refine pure_ (i := 2) (N := some 35) (v := ?_) (a' := ?_) spec_GrdOk.mk2 rfl rfl (any_of HT_.out (by kernel_rfl)) (fun _ _ _ h => h) (Or.inl ⟨by rfl, ?_⟩) ?_ ?_
            rotate_left
            ·intro w'
             go_simp
             with_reducible rfl
            rotate_left
            ·simp only [Act.put, qa_, qb_, qc_, i64_w, i32_w]
             rfl
            refine take_ (i := 1) (N := some 34) (v := ?_) (a' := ?_) spec_GrdOk.mk3 rfl rfl (take_ofW HT_.out HW_.out (by kernel_rfl)) (fun _ _ _ h => h) (Or.inl ⟨by rfl, ?_⟩) hHeld ?_ ?_
            rotate_left
            ·rintro w' ⟨s0, s1, s2, s3, s4, s5, s6, s7⟩
             go_simp
             with_reducible rfl
            rotate_left
            ·simp only [Act.put, qa_, qb_, qc_, i64_w, i32_w]
             rfl
            refine take_ (i := 3) (N := some 36) (v := ?_) (a' := ?_) spec_GrdOk.mk4 rfl rfl (take_ofW HT_.out HW_.out (by kernel_rfl)) (fun _ _ _ h => h) (Or.inl ⟨by rfl, ?_⟩) hHeld ?_ ?_
            rotate_left
            ·rintro w' ⟨s0, s1, s2, s3, s4, s5, s6, s7⟩
             go_simp
             with_reducible rfl
            rotate_left
            ·simp only [Act.put, qa_, qb_, qc_, i64_w, i32_w]
             rfl
            refine pure_ (i := 4) (N := some 37) (v := ?_) (a' := ?_) spec_GrdOk.mk5 rfl rfl (any_of HT_.out (by kernel_rfl)) (fun _ _ _ h => h) (Or.inl ⟨by rfl, ?_⟩) ?_ ?_
            rotate_left
            ·intro w'
             go_simp
             with_reducible rfl
            rotate_left
            ·simp only [Act.put, qa_, qb_, qc_, i64_w, i32_w]
             rfl
            refine one_ (i := 5) (N := some 38) spec_GrdOk.mk6 rfl rfl (one_of HT_.out (by kernel_rfl)) (by decide) (fun K hK => ?_)
            refine goes_ Try.func39 (by kernel_rfl) rfl #[.int .i64 ((rd_T65 l0_2 x3_2).f0), .int .i64 0, .int .i64 (wrap64 (a0_0 - 1))] (by rfl) rfl rfl (by (try simp only [List.map_toArray, List.map_cons, List.map_nil]); first | done | rfl | (simp only [List.length_drop, List.length_take]; rfl)) ?_
            with_reducible refine (spec_l1In.calls ((rd_T65 l0_2 x3_2).f0) 0 (wrap64 (a0_0 - 1)) true _ A14.out).mono ?_
            rintro e w' ⟨rfl, ⟨nd, rfl⟩⟩
            refine ⟨_, rfl, ?_⟩
            refine hK.out _ _ ⟨(blk_cell BK301.out 0).trans rfl, (blk_cell BK301.out 1).trans rfl, (blk_cell BK301.out 2).trans rfl, (blk_cell BK301.out 3).trans rfl, (blk_cell BK301.out 4).trans rfl, (blk_cell BK297.out 0).trans rfl, (blk_cell BK297.out 1).trans rfl, (blk_cell BK297.out 2).trans rfl⟩ (fun hHeld => ?_)
            clear hK K
            refine norm_ (a' := ?_) ?_ ?_
            rotate_left
            ·show Act.put _ (some 38) _ = _
             simp only [Act.put, qa_, qb_, qc_, i64_w, i32_w]
             rfl
            refine pure_ (i := 6) (N := some 39) (v := ?_) (a' := ?_) spec_GrdOk.mk7 rfl rfl (any_of HT_.out (by kernel_rfl)) (fun _ _ _ h => h) (Or.inl ⟨by rfl, ?_⟩) ?_ ?_
            rotate_left
            ·intro w'
             go_simp
             with_reducible rfl
            rotate_left
            ·simp only [Act.put, qa_, qb_, qc_, i64_w, i32_w]
             rfl
            refine pure_ (i := 7) (N := some 40) (v := ?_) (a' := ?_) spec_GrdOk.mk8 rfl rfl (any_of HT_.out (by kernel_rfl)) (fun _ _ _ h => h) (Or.inl ⟨by rfl, ?_⟩) ?_ ?_
            rotate_left
            ·intro w'
             go_simp
             with_reducible rfl
            rotate_left
            ·simp only [Act.put, qa_, qb_, qc_, i64_w, i32_w]
             rfl
            refine pure_ (i := 8) (N := some 41) (v := ?_) (a' := ?_) spec_GrdOk.mk9 rfl rfl (any_of HT_.out (by kernel_rfl)) (fun _ _ _ h => h) (Or.inl ⟨by rfl, ?_⟩) ?_ ?_
            rotate_left
            ·intro w'
             go_simp
             with_reducible rfl
            rotate_left
            ·simp only [Act.put, qa_, qb_, qc_, i64_w, i32_w]
             rfl
            refine pure_ (i := 10) (N := some 43) (v := ?_) (a' := ?_) spec_GrdOk.mk10 rfl rfl (any_of HT_.out (by kernel_rfl)) (fun _ _ _ h => h) (Or.inl ⟨by rfl, ?_⟩) ?_ ?_
            rotate_left
            ·intro w'
             go_simp
             with_reducible rfl
            rotate_left
            ·simp only [Act.put, qa_, qb_, qc_, i64_w, i32_w]
             rfl
            refine take_ (i := 9) (N := some 42) (v := ?_) (a' := ?_) spec_GrdOk.mk11 rfl rfl (take_ofW HT_.out HW_.out (by kernel_rfl)) (fun _ _ _ h => h) (Or.inl ⟨by rfl, ?_⟩) hHeld ?_ ?_
            rotate_left
            ·rintro w' ⟨s0, s1, s2, s3, s4, s5, s6, s7⟩
             go_simp
             with_reducible rfl
            rotate_left
            ·simp only [Act.put, qa_, qb_, qc_, i64_w, i32_w]
             rfl
            refine take_ (i := 11) (N := some 44) (v := ?_) (a' := ?_) spec_GrdOk.mk12 rfl rfl (take_ofW HT_.out HW_.out (by kernel_rfl)) (fun _ _ _ h => h) (Or.inl ⟨by rfl, ?_⟩) hHeld ?_ ?_
            rotate_left
            ·rintro w' ⟨s0, s1, s2, s3, s4, s5, s6, s7⟩
             go_simp
             with_reducible rfl
            rotate_left
            ·simp only [Act.put, qa_, qb_, qc_, i64_w, i32_w]
             rfl
            refine pure_ (i := 12) (N := some 45) (v := ?_) (a' := ?_) spec_GrdOk.mk13 rfl rfl (any_of HT_.out (by kernel_rfl)) (fun _ _ _ h => h) (Or.inl ⟨by rfl, ?_⟩) ?_ ?_
            rotate_left
            ·intro w'
             go_simp
             with_reducible rfl
            rotate_left
            ·simp only [Act.put, qa_, qb_, qc_, i64_w, i32_w]
             rfl
            refine one_ (i := 13) (N := some 46) spec_GrdOk.mk14 rfl rfl (one_of HT_.out (by kernel_rfl)) (by decide) (fun K hK => ?_)
            refine goes_ Try.func39 (by kernel_rfl) rfl #[.int .i64 ((rd_T65 l0_2 x3_2).f1), .int .i64 0, .int .i64 (wrap64 (a0_1 - 1))] (by rfl) rfl rfl (by (try simp only [List.map_toArray, List.map_cons, List.map_nil]); first | done | rfl | (simp only [List.length_drop, List.length_take]; rfl)) ?_
            with_reducible refine (spec_l1In.calls ((rd_T65 l0_2 x3_2).f1) 0 (wrap64 (a0_1 - 1)) true _ A16.out).mono ?_
            rintro e w' ⟨rfl, ⟨nd, rfl⟩⟩
            refine ⟨_, rfl, ?_⟩
            refine hK.out _ _ ⟨(blk_cell BK301.out 0).trans rfl, (blk_cell BK301.out 1).trans rfl, (blk_cell BK301.out 2).trans rfl, (blk_cell BK301.out 3).trans rfl, (blk_cell BK301.out 4).trans rfl, (blk_cell BK297.out 0).trans rfl, (blk_cell BK297.out 1).trans rfl, (blk_cell BK297.out 2).trans rfl⟩ (fun hHeld => ?_)
            clear hK K
            refine norm_ (a' := ?_) ?_ ?_
            rotate_left
            ·show Act.put _ (some 46) _ = _
             simp only [Act.put, qa_, qb_, qc_, i64_w, i32_w]
             rfl
            refine pure_ (i := 14) (N := some 47) (v := ?_) (a' := ?_) spec_GrdOk.mk15 rfl rfl (any_of HT_.out (by kernel_rfl)) (fun _ _ _ h => h) (Or.inl ⟨by rfl, ?_⟩) ?_ ?_
            rotate_left
            ·intro w'
             go_simp
             with_reducible rfl
            rotate_left
            ·simp only [Act.put, qa_, qb_, qc_, i64_w, i32_w]
             rfl
            refine pure_ (i := 15) (N := some 48) (v := ?_) (a' := ?_) spec_GrdOk.mk16 rfl rfl (any_of HT_.out (by kernel_rfl)) (fun _ _ _ h => h) (Or.inl ⟨by rfl, ?_⟩) ?_ ?_
            rotate_left
            ·intro w'
             go_simp
             with_reducible rfl
            rotate_left
            ·simp only [Act.put, qa_, qb_, qc_, i64_w, i32_w]
             rfl
            refine pure_ (i := 16) (N := some 49) (v := ?_) (a' := ?_) spec_GrdOk.mk17 rfl rfl (any_of HT_.out (by kernel_rfl)) (fun _ _ _ h => h) (Or.inl ⟨by rfl, ?_⟩) ?_ ?_
            rotate_left
            ·intro w'
             go_simp
             with_reducible rfl
            rotate_left
            ·simp only [Act.put, qa_, qb_, qc_, i64_w, i32_w]
             rfl
            refine pure_ (i := 17) (N := some 50) (v := ?_) (a' := ?_) spec_GrdOk.mk18 rfl rfl (any_of HT_.out (by kernel_rfl)) (fun _ _ _ h => h) (Or.inl ⟨by rfl, ?_⟩) ?_ ?_
            rotate_left
            ·intro w'
             go_simp
             with_reducible rfl
            rotate_left
            ·simp only [Act.put, qa_, qb_, qc_, i64_w, i32_w]
             rfl
            refine pure_ (i := 19) (N := some 52) (v := ?_) (a' := ?_) spec_GrdOk.mk19 rfl rfl (any_of HT_.out (by kernel_rfl)) (fun _ _ _ h => h) (Or.inl ⟨by rfl, ?_⟩) ?_ ?_
            rotate_left
            ·intro w'
             go_simp
             with_reducible rfl
            rotate_left
            ·simp only [Act.put, qa_, qb_, qc_, i64_w, i32_w]
             rfl
            refine pure_ (i := 21) (N := some 54) (v := ?_) (a' := ?_) spec_GrdOk.mk20 rfl rfl (any_of HT_.out (by kernel_rfl)) (fun _ _ _ h => h) (Or.inl ⟨by rfl, ?_⟩) ?_ ?_
            rotate_left
            ·intro w'
             go_simp
             with_reducible rfl
            rotate_left
            ·simp only [Act.put, qa_, qb_, qc_, i64_w, i32_w]
             rfl
            refine take_ (i := 18) (N := some 51) (v := ?_) (a' := ?_) spec_GrdOk.mk21 rfl rfl (take_ofW HT_.out HW_.out (by kernel_rfl)) (fun _ _ _ h => h) (Or.inl ⟨by rfl, ?_⟩) hHeld ?_ ?_
            rotate_left
            ·rintro w' ⟨s0, s1, s2, s3, s4, s5, s6, s7⟩
             go_simp
             with_reducible rfl
            rotate_left
            ·simp only [Act.put, qa_, qb_, qc_, i64_w, i32_w]
             rfl
            refine take_ (i := 20) (N := some 53) (v := ?_) (a' := ?_) spec_GrdOk.mk22 rfl rfl (take_ofW HT_.out HW_.out (by kernel_rfl)) (fun _ _ _ h => h) (Or.inl ⟨by rfl, ?_⟩) hHeld ?_ ?_
            rotate_left
            ·rintro w' ⟨s0, s1, s2, s3, s4, s5, s6, s7⟩
             go_simp
             with_reducible rfl
            rotate_left
            ·simp only [Act.put, qa_, qb_, qc_, i64_w, i32_w]
             rfl
            refine take_ (i := 22) (N := some 55) (v := ?_) (a' := ?_) spec_GrdOk.mk23 rfl rfl (take_ofW HT_.out HW_.out (by kernel_rfl)) (fun _ _ _ h => h) (Or.inl ⟨by rfl, ?_⟩) hHeld ?_ ?_
            rotate_left
            ·rintro w' ⟨s0, s1, s2, s3, s4, s5, s6, s7⟩
             go_simp
             with_reducible rfl
            rotate_left
            ·simp only [Act.put, qa_, qb_, qc_, i64_w, i32_w]
             rfl
            refine pure_ (i := 23) (N := some 56) (v := ?_) (a' := ?_) spec_GrdOk.mk24 rfl rfl (any_of HT_.out (by kernel_rfl)) (fun _ _ _ h => h) (Or.inl ⟨by rfl, ?_⟩) ?_ ?_
            rotate_left
            ·intro w'
             go_simp
             with_reducible rfl
            rotate_left
            ·simp only [Act.put, qa_, qb_, qc_, i64_w, i32_w]
             rfl
            refine one_ (i := 24) (N := some 57) spec_GrdOk.mk25 rfl rfl (one_of HT_.out (by kernel_rfl)) (by decide) (fun K hK => ?_)
            refine goes_ Try.func39 (by kernel_rfl) rfl #[.int .i64 ((rd_T65 l0_2 x3_2).f2), .int .i64 1, .int .i64 (wrap64 (a0_0 - ((rd_T65 l0_2 x3_2).f0)))] (by rfl) rfl rfl (by (try simp only [List.map_toArray, List.map_cons, List.map_nil]); first | done | rfl | (simp only [List.length_drop, List.length_take]; rfl)) ?_
            with_reducible refine (spec_l1In.calls ((rd_T65 l0_2 x3_2).f2) 1 (wrap64 (a0_0 - ((rd_T65 l0_2 x3_2).f0))) true _ A18.out).mono ?_
            rintro e w' ⟨rfl, ⟨nd, rfl⟩⟩
            refine ⟨_, rfl, ?_⟩
            refine hK.out _ _ ⟨(blk_cell BK301.out 0).trans rfl, (blk_cell BK301.out 1).trans rfl, (blk_cell BK301.out 2).trans rfl, (blk_cell BK301.out 3).trans rfl, (blk_cell BK301.out 4).trans rfl, (blk_cell BK297.out 0).trans rfl, (blk_cell BK297.out 1).trans rfl, (blk_cell BK297.out 2).trans rfl⟩ (fun hHeld => ?_)
            clear hK K
            refine norm_ (a' := ?_) ?_ ?_
            rotate_left
            ·show Act.put _ (some 57) _ = _
             simp only [Act.put, qa_, qb_, qc_, i64_w, i32_w]
             rfl
            refine pure_ (i := 25) (N := some 58) (v := ?_) (a' := ?_) spec_GrdOk.mk26 rfl rfl (any_of HT_.out (by kernel_rfl)) (fun _ _ _ h => h) (Or.inl ⟨by rfl, ?_⟩) ?_ ?_
            rotate_left
            ·intro w'
             go_simp
             with_reducible rfl
            rotate_left
            ·simp only [Act.put, qa_, qb_, qc_, i64_w, i32_w]
             rfl
            refine pure_ (i := 26) (N := some 59) (v := ?_) (a' := ?_) spec_GrdOk.mk27 rfl rfl (any_of HT_.out (by kernel_rfl)) (fun _ _ _ h => h) (Or.inl ⟨by rfl, ?_⟩) ?_ ?_
            rotate_left
            ·intro w'
             go_simp
             with_reducible rfl
            rotate_left
            ·simp only [Act.put, qa_, qb_, qc_, i64_w, i32_w]
             rfl
            refine pure_ (i := 27) (N := some 60) (v := ?_) (a' := ?_) spec_GrdOk.mk28 rfl rfl (any_of HT_.out (by kernel_rfl)) (fun _ _ _ h => h) (Or.inl ⟨by rfl, ?_⟩) ?_ ?_
            rotate_left
            ·intro w'
             go_simp
             with_reducible rfl
            rotate_left
            ·simp only [Act.put, qa_, qb_, qc_, i64_w, i32_w]
             rfl
            refine pure_ (i := 28) (N := some 61) (v := ?_) (a' := ?_) spec_GrdOk.mk29 rfl rfl (any_of HT_.out (by kernel_rfl)) (fun _ _ _ h => h) (Or.inl ⟨by rfl, ?_⟩) ?_ ?_
            rotate_left
            ·intro w'
             go_simp
             with_reducible rfl
            rotate_left
            ·simp only [Act.put, qa_, qb_, qc_, i64_w, i32_w]
             rfl
            refine pure_ (i := 30) (N := some 63) (v := ?_) (a' := ?_) spec_GrdOk.mk30 rfl rfl (any_of HT_.out (by kernel_rfl)) (fun _ _ _ h => h) (Or.inl ⟨by rfl, ?_⟩) ?_ ?_
            rotate_left
            ·intro w'
             go_simp
             with_reducible rfl
            rotate_left
            ·simp only [Act.put, qa_, qb_, qc_, i64_w, i32_w]
             rfl
            refine pure_ (i := 32) (N := some 65) (v := ?_) (a' := ?_) spec_GrdOk.mk31 rfl rfl (any_of HT_.out (by kernel_rfl)) (fun _ _ _ h => h) (Or.inl ⟨by rfl, ?_⟩) ?_ ?_
            rotate_left
            ·intro w'
             go_simp
             with_reducible rfl
            rotate_left
            ·simp only [Act.put, qa_, qb_, qc_, i64_w, i32_w]
             rfl
            refine take_ (i := 29) (N := some 62) (v := ?_) (a' := ?_) spec_GrdOk.mk32 rfl rfl (take_ofW HT_.out HW_.out (by kernel_rfl)) (fun _ _ _ h => h) (Or.inl ⟨by rfl, ?_⟩) hHeld ?_ ?_
            rotate_left
            ·rintro w' ⟨s0, s1, s2, s3, s4, s5, s6, s7⟩
             go_simp
             with_reducible rfl
            rotate_left
            ·simp only [Act.put, qa_, qb_, qc_, i64_w, i32_w]
             rfl
            refine take_ (i := 31) (N := some 64) (v := ?_) (a' := ?_) spec_GrdOk.mk33 rfl rfl (take_ofW HT_.out HW_.out (by kernel_rfl)) (fun _ _ _ h => h) (Or.inl ⟨by rfl, ?_⟩) hHeld ?_ ?_
            rotate_left
            ·rintro w' ⟨s0, s1, s2, s3, s4, s5, s6, s7⟩
             go_simp
             with_reducible rfl
            rotate_left
            ·simp only [Act.put, qa_, qb_, qc_, i64_w, i32_w]
             rfl
            refine take_ (i := 33) (N := some 66) (v := ?_) (a' := ?_) spec_GrdOk.mk34 rfl rfl (take_ofW HT_.out HW_.out (by kernel_rfl)) (fun _ _ _ h => h) (Or.inl ⟨by rfl, ?_⟩) hHeld ?_ ?_
            rotate_left
            ·rintro w' ⟨s0, s1, s2, s3, s4, s5, s6, s7⟩
             go_simp
             with_reducible rfl
            rotate_left
            ·simp only [Act.put, qa_, qb_, qc_, i64_w, i32_w]
             rfl
            refine pure_ (i := 34) (N := some 67) (v := ?_) (a' := ?_) spec_GrdOk.mk35 rfl rfl (any_of HT_.out (by kernel_rfl)) (fun _ _ _ h => h) (Or.inl ⟨by rfl, ?_⟩) ?_ ?_
            rotate_left
            ·intro w'
             go_simp
             with_reducible rfl
            rotate_left
            ·simp only [Act.put, qa_, qb_, qc_, i64_w, i32_w]
             rfl
            refine one_ (i := 35) (N := some 68) spec_GrdOk.mk36 rfl rfl (one_of HT_.out (by kernel_rfl)) (by decide) (fun K hK => ?_)
            refine goes_ Try.func39 (by kernel_rfl) rfl #[.int .i64 ((rd_T65 l0_2 x3_2).f3), .int .i64 1, .int .i64 (wrap64 (a0_1 - ((rd_T65 l0_2 x3_2).f1)))] (by rfl) rfl rfl (by (try simp only [List.map_toArray, List.map_cons, List.map_nil]); first | done | rfl | (simp only [List.length_drop, List.length_take]; rfl)) ?_
            with_reducible refine (spec_l1In.calls ((rd_T65 l0_2 x3_2).f3) 1 (wrap64 (a0_1 - ((rd_T65 l0_2 x3_2).f1))) false _ A20.out).mono ?_
            rintro e w' ⟨rfl, ⟨nd, rfl⟩⟩
            refine ⟨_, rfl, ?_⟩
            refine hK.out _ _ ⟨(blk_cell BK301.out 0).trans rfl, (blk_cell BK301.out 1).trans rfl, (blk_cell BK301.out 2).trans rfl, (blk_cell BK301.out 3).trans rfl, (blk_cell BK301.out 4).trans rfl, (blk_cell BK297.out 0).trans rfl, (blk_cell BK297.out 1).trans rfl, (blk_cell BK297.out 2).trans rfl⟩ (fun hHeld => ?_)
            clear hK K
            refine norm_ (a' := ?_) ?_ ?_
            rotate_left
            ·show Act.put _ (some 68) _ = _
             simp only [Act.put, qa_, qb_, qc_, i64_w, i32_w]
             rfl
            refine pure_ (i := 36) (N := some 69) (v := ?_) (a' := ?_) spec_GrdOk.mk37 rfl rfl (any_of HT_.out (by kernel_rfl)) (fun _ _ _ h => h) (Or.inl ⟨by rfl, ?_⟩) ?_ ?_
            rotate_left
            ·intro w'
             go_simp
             with_reducible rfl
            rotate_left
            ·simp only [Act.put, qa_, qb_, qc_, i64_w, i32_w]
             rfl
            refine pure_ (i := 37) (N := some 70) (v := ?_) (a' := ?_) spec_GrdOk.mk38 rfl rfl (any_of HT_.out (by kernel_rfl)) (fun _ _ _ h => h) (Or.inl ⟨by rfl, ?_⟩) ?_ ?_
            rotate_left
            ·intro w'
             go_simp
             with_reducible rfl
            rotate_left
            ·simp only [Act.put, qa_, qb_, qc_, i64_w, i32_w]
             rfl
            refine pure_ (i := 38) (N := some 71) (v := ?_) (a' := ?_) spec_GrdOk.mk39 rfl rfl (any_of HT_.out (by kernel_rfl)) (fun _ _ _ h => h) (Or.inl ⟨by rfl, ?_⟩) ?_ ?_
            rotate_left
            ·intro w'
             go_simp
             with_reducible rfl
            rotate_left
            ·simp only [Act.put, qa_, qb_, qc_, i64_w, i32_w]
             rfl
            refine pure_ (i := 39) (N := some 72) (v := undef) (a' := ?_) spec_GrdOk.mk40 rfl rfl (any_of HT_.out (by kernel_rfl)) (fun _ _ _ h => h) (Or.inr ⟨by rfl, rfl⟩) ?_ ?_
            rotate_left
            ·simp only [Act.put, qa_, qb_, qc_, i64_w, i32_w]
             rfl
            refine pure_ (i := 40) (N := some 73) (v := undef) (a' := ?_) spec_GrdOk.mk41 rfl rfl (any_of HT_.out (by kernel_rfl)) (fun _ _ _ h => h) (Or.inr ⟨by rfl, rfl⟩) ?_ ?_
            rotate_left
            ·simp only [Act.put, qa_, qb_, qc_, i64_w, i32_w]
             rfl
            refine pure_ (i := 41) (N := some 74) (v := undef) (a' := ?_) spec_GrdOk.mk42 rfl rfl (any_of HT_.out (by kernel_rfl)) (fun _ _ _ h => h) (Or.inr ⟨by rfl, rfl⟩) ?_ ?_
            rotate_left
            ·simp only [Act.put, qa_, qb_, qc_, i64_w, i32_w]
             rfl
            refine pure_ (i := 42) (N := some 75) (v := undef) (a' := ?_) spec_GrdOk.mk43 rfl rfl (any_of HT_.out (by kernel_rfl)) (fun _ _ _ h => h) (Or.inr ⟨by rfl, rfl⟩) ?_ ?_
            rotate_left
            ·simp only [Act.put, qa_, qb_, qc_, i64_w, i32_w]
             rfl
            refine pure_ (i := 43) (N := some 76) (v := ?_) (a' := ?_) spec_GrdOk.mk44 rfl rfl (any_of HT_.out (by kernel_rfl)) (fun _ _ _ h => h) (Or.inl ⟨by rfl, ?_⟩) ?_ ?_
            rotate_left
            ·intro w'
             go_simp
             with_reducible rfl
            rotate_left
            ·simp only [Act.put, qa_, qb_, qc_, i64_w, i32_w]
             rfl
            refine pure_ (i := 44) (N := some 77) (v := ?_) (a' := ?_) spec_GrdOk.mk45 rfl rfl (any_of HT_.out (by kernel_rfl)) (fun _ _ _ h => h) (Or.inl ⟨by rfl, ?_⟩) ?_ ?_
            rotate_left
            ·intro w'
             go_simp
             with_reducible rfl
            rotate_left
            ·simp only [Act.put, qa_, qb_, qc_, i64_w, i32_w]
             rfl
            refine pure_ (i := 45) (N := some 78) (v := undef) (a' := ?_) spec_GrdOk.mk46 rfl rfl (any_of HT_.out (by kernel_rfl)) (fun _ _ _ h => h) (Or.inr ⟨by rfl, rfl⟩) ?_ ?_
            rotate_left
            ·simp only [Act.put, qa_, qb_, qc_, i64_w, i32_w]
             rfl
            refine pure_ (i := 46) (N := some 79) (v := undef) (a' := ?_) spec_GrdOk.mk54 rfl rfl (any_of HT_.out (by kernel_rfl)) (fun _ _ _ h => h) (Or.inr ⟨by rfl, rfl⟩) ?_ ?_
            rotate_left
            ·simp only [Act.put, qa_, qb_, qc_, i64_w, i32_w]
             rfl
            refine pure_ (i := 47) (N := some 80) (v := undef) (a' := ?_) spec_GrdOk.mk48 rfl rfl (any_of HT_.out (by kernel_rfl)) (fun _ _ _ h => h) (Or.inr ⟨by rfl, rfl⟩) ?_ ?_
            rotate_left
            ·simp only [Act.put, qa_, qb_, qc_, i64_w, i32_w]
             rfl
            refine pure_ (i := 48) (N := some 81) (v := undef) (a' := ?_) spec_GrdOk.mk49 rfl rfl (any_of HT_.out (by kernel_rfl)) (fun _ _ _ h => h) (Or.inr ⟨by rfl, rfl⟩) ?_ ?_
            rotate_left
            ·simp only [Act.put, qa_, qb_, qc_, i64_w, i32_w]
             rfl
            refine pure_ (i := 49) (N := some 82) (v := undef) (a' := ?_) spec_GrdOk.mk50 rfl rfl (any_of HT_.out (by kernel_rfl)) (fun _ _ _ h => h) (Or.inr ⟨by rfl, rfl⟩) ?_ ?_
            rotate_left
            ·simp only [Act.put, qa_, qb_, qc_, i64_w, i32_w]
             rfl
            refine pure_ (i := 50) (N := some 83) (v := undef) (a' := ?_) spec_GrdOk.mk51 rfl rfl (any_of HT_.out (by kernel_rfl)) (fun _ _ _ h => h) (Or.inr ⟨by rfl, rfl⟩) ?_ ?_
            rotate_left
            ·simp only [Act.put, qa_, qb_, qc_, i64_w, i32_w]
             rfl
            refine pure_ (i := 51) (N := some 84) (v := undef) (a' := ?_) spec_GrdOk.mk52 rfl rfl (any_of HT_.out (by kernel_rfl)) (fun _ _ _ h => h) (Or.inr ⟨by rfl, rfl⟩) ?_ ?_
            rotate_left
            ·simp only [Act.put, qa_, qb_, qc_, i64_w, i32_w]
             rfl
            refine pure_ (i := 52) (N := some 85) (v := ?_) (a' := ?_) spec_GrdOk.mk53 rfl rfl (any_of HT_.out (by kernel_rfl)) (fun _ _ _ h => h) (Or.inl ⟨by rfl, ?_⟩) ?_ ?_
            rotate_left
            ·intro w'
             go_simp
             with_reducible rfl
            rotate_left
            ·simp only [Act.put, qa_, qb_, qc_, i64_w, i32_w]
             rfl
            refine done_ (done_of HT_.out (by kernel_rfl)) ?_
            try go_wp2
            go_ret
            exact ⟨by first | rfl | (simp [errW_none, errW_some] <;> rfl) | (simp [*, errW_none, errW_some] <;> rfl), by repeat (first | (with_reducible first | exact HB.out | apply below_alloc | apply pw_below_drewN | apply below_drew1 | refine below_set ?_ GE297.out | refine below_set ?_ GE301.out) | exact HB.out)⟩
          ·replace c19 := Bool.eq_false_iff.mpr c19
           subst c19
           have H1 : (some false) = some r := by rw [if_neg (show ¬ (false = true) by decide)] at H; exact H
           clear H
           have H := H1
           clear H1
           obtain rfl := Option.some.inj H
           have hcz56_0 : wr.cell? ⟨gb297, 0, none⟩ = some (.int .i64 a0_0) := (blk_cell BK297.out 0).trans rfl
           have hcz56_1 : wr.cell? ⟨gb297, 1, none⟩ = some (.int .i64 a0_1) := (blk_cell BK297.out 1).trans rfl
           have hcz56_2 : wr.cell? ⟨gb297, 2, none⟩ = some (.slice A0_2 l0_2.length c0_2) := (blk_cell BK297.out 2).trans rfl
           have hfz56_0 := blk_frozen BK297.out 0
           have hfz56_1 := blk_frozen BK297.out 1
           have hfz56_2 := blk_frozen BK297.out 2
           have p300 : 0 ≤ (x3_2 : Int) := of_decide_eq_true (by first | (with_reducible assumption) | assumption)
           have q300 : x3_2 < (l0_2.length : Int) := of_decide_eq_true (by first | (with_reducible assumption) | assumption)
           obtain ⟨ad300, e300, hx300_0, hx300_1, hx300_2, hx300_3, hx300_4⟩ := at_T65 HR0_2.out x3_2 p300 q300
           cases e300
           replace hx300_0 := (HB.out.cell (World.block_lt_of_cell? w _ hx300_0)).trans hx300_0
           replace hx300_1 := (HB.out.cell (World.block_lt_of_cell? w _ hx300_1)).trans hx300_1
           replace hx300_2 := (HB.out.cell (World.block_lt_of_cell? w _ hx300_2)).trans hx300_2
           replace hx300_3 := (HB.out.cell (World.block_lt_of_cell? w _ hx300_3)).trans hx300_3
           replace hx300_4 := (HB.out.cell (World.block_lt_of_cell? w _ hx300_4)).trans hx300_4
           replace p300 := eq_true p300
           replace q300 := eq_true q300
           try go_wp2_with (first | ((with_reducible refine gate_dst (N := 4) rfl ?_); (try (refine gate_guard (by rfl) ?_; dsimp only)); refine box_event ?hg (N := 4) ?hd (cs := #[.int .i64 0, .int .i64 0, .int .i64 0, .int .i64 0, .int .i64 0]) (t := 65) ?hr ?_; (case hd => rfl); (case hg => rfl); (case hr => first | (go_simp; done) | (go_simp; rfl)); intro gb301 hg w57 hbox hb; have n0_ := Aside0.mk (blk_below (g := gb297) (o := .cells #[.int .i64 a0_0, .int .i64 a0_1, .slice (some ad300) l0_2.length c0_2] 42 (0, 0)) (by (with_reducible repeat (first | refine blk_drewN ?_ _ | refine blk_drew ?_ | refine blk_alloc ?_ _)); exact BK297.out) hb); have n1_ := Aside0.mk (below_step (by repeat (first | (with_reducible first | exact HB.out | apply below_alloc | apply pw_below_drewN | apply below_drew1 | refine below_set ?_ GE297.out) | exact HB.out)) hb); have n2_ := Aside0.mk (hbox); have n3_ := Aside0.mk ((by rw [hg]; exact (below_size (by repeat (first | (with_reducible first | exact HB.out | apply below_alloc | apply pw_below_drewN | apply below_drew1 | refine below_set ?_ GE297.out) | exact HB.out))) : w.heap.size ≤ gb301)); have n4_ := Aside0.mk ((by rw [hg]; exact (below_size (by repeat (first | (with_reducible first | exact HB.out | apply below_alloc | apply pw_below_drewN | apply below_drew1 | refine below_set ?_ GE297.out) | exact HB.out))) : w.heap.size ≤ gb301)); have n5_ := Aside0.mk ((by rw [hg]; exact Nat.ne_of_lt (blk_lt (g := gb297) (o := .cells #[.int .i64 a0_0, .int .i64 a0_1, .slice (some ad300) l0_2.length c0_2] 42 (0, 0)) (by (with_reducible repeat (first | refine blk_drewN ?_ _ | refine blk_drew ?_ | refine blk_alloc ?_ _)); exact BK297.out)) : gb297 ≠ gb301)); have n6_ := Aside0.mk ((by rw [hg]; exact Nat.ne_of_gt (blk_lt (g := gb297) (o := .cells #[.int .i64 a0_0, .int .i64 a0_1, .slice (some ad300) l0_2.length c0_2] 42 (0, 0)) (by (with_reducible repeat (first | refine blk_drewN ?_ _ | refine blk_drew ?_ | refine blk_alloc ?_ _)); exact BK297.out)) : gb301 ≠ gb297)); clear BK297; clear HB; have BK297 := n0_; have HB := n1_; have BK301 := n2_; have GW301 := n3_; have GE301 := n4_; have NB297_301 := n5_; have NB301_297 := n6_; clear n0_ n1_ n2_ n3_ n4_ n5_ n6_; clear hb hbox hg; have hnb58 := NB301_297.out; have hnc58 := NB297_301.out; have hcz59_0 : w57.cell? ⟨gb301, 0, none⟩ = some (.int .i64 0) := (blk_cell BK301.out 0).trans rfl; have hcz59_1 : w57.cell? ⟨gb301, 1, none⟩ = some (.int .i64 0) := (blk_cell BK301.out 1).trans rfl; have hcz59_2 : w57.cell? ⟨gb301, 2, none⟩ = some (.int .i64 0) := (blk_cell BK301.out 2).trans rfl; have hcz59_3 : w57.cell? ⟨gb301, 3, none⟩ = some (.int .i64 0) := (blk_cell BK301.out 3).trans rfl; have hcz59_4 : w57.cell? ⟨gb301, 4, none⟩ = some (.int .i64 0) := (blk_cell BK301.out 4).trans rfl; have hfz59_0 := blk_frozen BK301.out 0; have hfz59_1 := blk_frozen BK301.out 1; have hfz59_2 := blk_frozen BK301.out 2; have hfz59_3 := blk_frozen BK301.out 3; have hfz59_4 := blk_frozen BK301.out 4))
           have n0_ : Aside0 ((((((w57.setCell ⟨gb301, 0, none⟩ (.int .i64 ((rd_T65 l0_2 x3_2).f0))).setCell ⟨gb301, 1, none⟩ (.int .i64 ((rd_T65 l0_2 x3_2).f1))).setCell ⟨gb301, 2, none⟩ (.int .i64 ((rd_T65 l0_2 x3_2).f2))).setCell ⟨gb301, 3, none⟩ (.int .i64 ((rd_T65 l0_2 x3_2).f3))).setCell ⟨gb301, 4, none⟩ (.int .i64 ((rd_T65 l0_2 x3_2).f4))).heap[gb297]? = some (.cells #[.int .i64 a0_0, .int .i64 a0_1, .slice (some ad300) l0_2.length c0_2] 42 (0, 0))) := ⟨by (with_reducible repeat (first | refine blk_drewN ?_ _ | refine blk_drew ?_ | refine blk_alloc ?_ _)); refine blk_far ?_ NB297_301.out _; (with_reducible repeat (first | refine blk_drewN ?_ _ | refine blk_drew ?_ | refine blk_alloc ?_ _)); refine blk_far ?_ NB297_301.out _; (with_reducible repeat (first | refine blk_drewN ?_ _ | refine blk_drew ?_ | refine blk_alloc ?_ _)); refine blk_far ?_ NB297_301.out _; (with_reducible repeat (first | refine blk_drewN ?_ _ | refine blk_drew ?_ | refine blk_alloc ?_ _)); refine blk_far ?_ NB297_301.out _; (with_reducible repeat (first | refine blk_drewN ?_ _ | refine blk_drew ?_ | refine blk_alloc ?_ _)); refine blk_far ?_ NB297_301.out _; (with_reducible repeat (first | refine blk_drewN ?_ _ | refine blk_drew ?_ | refine blk_alloc ?_ _)); exact BK297.out⟩
           have n1_ : Aside0 ((((((w57.setCell ⟨gb301, 0, none⟩ (.int .i64 ((rd_T65 l0_2 x3_2).f0))).setCell ⟨gb301, 1, none⟩ (.int .i64 ((rd_T65 l0_2 x3_2).f1))).setCell ⟨gb301, 2, none⟩ (.int .i64 ((rd_T65 l0_2 x3_2).f2))).setCell ⟨gb301, 3, none⟩ (.int .i64 ((rd_T65 l0_2 x3_2).f3))).setCell ⟨gb301, 4, none⟩ (.int .i64 ((rd_T65 l0_2 x3_2).f4))).heap[gb301]? = some (.cells #[.int .i64 ((rd_T65 l0_2 x3_2).f0), .int .i64 ((rd_T65 l0_2 x3_2).f1), .int .i64 ((rd_T65 l0_2 x3_2).f2), .int .i64 ((rd_T65 l0_2 x3_2).f3), .int .i64 ((rd_T65 l0_2 x3_2).f4)] 65 (0, 0))) := ⟨by (with_reducible repeat (first | refine blk_drewN ?_ _ | refine blk_drew ?_ | refine blk_alloc ?_ _)); refine blk_put (cs := #[.int .i64 ((rd_T65 l0_2 x3_2).f0), .int .i64 ((rd_T65 l0_2 x3_2).f1), .int .i64 ((rd_T65 l0_2 x3_2).f2), .int .i64 ((rd_T65 l0_2 x3_2).f3), .int .i64 0]) ?_ 4 _ rfl; (with_reducible repeat (first | refine blk_drewN ?_ _ | refine blk_drew ?_ | refine blk_alloc ?_ _)); refine blk_put (cs := #[.int .i64 ((rd_T65 l0_2 x3_2).f0), .int .i64 ((rd_T65 l0_2 x3_2).f1), .int .i64 ((rd_T65 l0_2 x3_2).f2), .int .i64 0, .int .i64 0]) ?_ 3 _ rfl; (with_reducible repeat (first | refine blk_drewN ?_ _ | refine blk_drew ?_ | refine blk_alloc ?_ _)); refine blk_put (cs := #[.int .i64 ((rd_T65 l0_2 x3_2).f0), .int .i64 ((rd_T65 l0_2 x3_2).f1), .int .i64 0, .int .i64 0, .int .i64 0]) ?_ 2 _ rfl; (with_reducible repeat (first | refine blk_drewN ?_ _ | refine blk_drew ?_ | refine blk_alloc ?_ _)); refine blk_put (cs := #[.int .i64 ((rd_T65 l0_2 x3_2).f0), .int .i64 0, .int .i64 0, .int .i64 0, .int .i64 0]) ?_ 1 _ rfl; (with_reducible repeat (first | refine blk_drewN ?_ _ | refine blk_drew ?_ | refine blk_alloc ?_ _)); refine blk_put (cs := #[.int .i64 0, .int .i64 0, .int .i64 0, .int .i64 0, .int .i64 0]) ?_ 0 _ rfl; (with_reducible repeat (first | refine blk_drewN ?_ _ | refine blk_drew ?_ | refine blk_alloc ?_ _)); exact BK301.out⟩
           have n2_ : Aside0 (Below w.heap.size w (((((w57.setCell ⟨gb301, 0, none⟩ (.int .i64 ((rd_T65 l0_2 x3_2).f0))).setCell ⟨gb301, 1, none⟩ (.int .i64 ((rd_T65 l0_2 x3_2).f1))).setCell ⟨gb301, 2, none⟩ (.int .i64 ((rd_T65 l0_2 x3_2).f2))).setCell ⟨gb301, 3, none⟩ (.int .i64 ((rd_T65 l0_2 x3_2).f3))).setCell ⟨gb301, 4, none⟩ (.int .i64 ((rd_T65 l0_2 x3_2).f4)))) := ⟨by repeat (first | (with_reducible first | exact HB.out | apply below_alloc | apply pw_below_drewN | apply below_drew1 | refine below_set ?_ GE297.out | refine below_set ?_ GE301.out) | exact HB.out)⟩
           (try clear BK297)
           (try clear BK301)
           (try clear HB)
           generalize (((((w57.setCell ⟨gb301, 0, none⟩ (.int .i64 ((rd_T65 l0_2 x3_2).f0))).setCell ⟨gb301, 1, none⟩ (.int .i64 ((rd_T65 l0_2 x3_2).f1))).setCell ⟨gb301, 2, none⟩ (.int .i64 ((rd_T65 l0_2 x3_2).f2))).setCell ⟨gb301, 3, none⟩ (.int .i64 ((rd_T65 l0_2 x3_2).f3))).setCell ⟨gb301, 4, none⟩ (.int .i64 ((rd_T65 l0_2 x3_2).f4))) = w60 at n0_ n1_ n2_ ⊢
           have BK297 := n0_
           have BK301 := n1_
           have HB := n2_
           clear n0_ n1_ n2_
           have n0_ := Aside0.mk (blk_drew BK297.out)
           have n1_ := Aside0.mk (blk_drew BK301.out)
           have n2_ := Aside0.mk (below_drew1 HB.out)
           clear BK297
           clear BK301
           clear HB
           have BK297 := n0_
           have BK301 := n1_
           have HB := n2_
           clear n0_ n1_ n2_
           refine start_ (n := 53) (S := fun w' => w'.cell? ⟨gb301, 0, none⟩ = some (.int .i64 ((rd_T65 l0_2 x3_2).f0)) ∧ w'.cell? ⟨gb301, 1, none⟩ = some (.int .i64 ((rd_T65 l0_2 x3_2).f1)) ∧ w'.cell? ⟨gb301, 2, none⟩ = some (.int .i64 ((rd_T65 l0_2 x3_2).f2)) ∧ w'.cell? ⟨gb301, 3, none⟩ = some (.int .i64 ((rd_T65 l0_2 x3_2).f3)) ∧ w'.cell? ⟨gb301, 4, none⟩ = some (.int .i64 ((rd_T65 l0_2 x3_2).f4)) ∧ w'.cell? ⟨gb297, 0, none⟩ = some (.int .i64 a0_0) ∧ w'.cell? ⟨gb297, 1, none⟩ = some (.int .i64 a0_1) ∧ w'.cell? ⟨gb297, 2, none⟩ = some (.slice (some ad300) l0_2.length c0_2)) (ds := []) spec_GrdOk.mk0 (by kernel_rfl) rfl rfl ⟨(blk_cell BK301.out 0).trans rfl, (blk_cell BK301.out 1).trans rfl, (blk_cell BK301.out 2).trans rfl, (blk_cell BK301.out 3).trans rfl, (blk_cell BK301.out 4).trans rfl, (blk_cell BK297.out 0).trans rfl, (blk_cell BK297.out 1).trans rfl, (blk_cell BK297.out 2).trans rfl⟩ (fun hHeld => ?_); refine with_tabW spec_GrdOk.tab7 spec_GrdOk.bits7 (fun HT_ HW_ => ?_)
           generalize w60.drew = w61 at BK297 BK301 HB hHeld ⊢
           refine pure_ (i := 0) (N := some 33) (v := ?_) (a' := ?_) spec_GrdOk.mk1 rfl rfl (any_of HT_.out (by kernel_rfl)) (fun _ _ _ h => h) (Or.inl ⟨by rfl, ?_⟩) ?_ ?_
           rotate_left
           ·intro w'
            go_simp
            with_reducible rfl
           rotate_left
           ·simp only [Act.put, qa_, qb_, qc_, i64_w, i32_w]
            rfl
           refine pure_ (i := 2) (N := some 35) (v := ?_) (a' := ?_) spec_GrdOk.mk2 rfl rfl (any_of HT_.out (by kernel_rfl)) (fun _ _ _ h => h) (Or.inl ⟨by rfl, ?_⟩) ?_ ?_
           rotate_left
           ·intro w'
            go_simp
            with_reducible rfl
           rotate_left
           ·simp only [Act.put, qa_, qb_, qc_, i64_w, i32_w]
            rfl
           refine take_ (i := 1) (N := some 34) (v := ?_) (a' := ?_) spec_GrdOk.mk3 rfl rfl (take_ofW HT_.out HW_.out (by kernel_rfl)) (fun _ _ _ h => h) (Or.inl ⟨by rfl, ?_⟩) hHeld ?_ ?_
           rotate_left
           ·rintro w' ⟨s0, s1, s2, s3, s4, s5, s6, s7⟩
            go_simp
            with_reducible rfl
           rotate_left
           ·simp only [Act.put, qa_, qb_, qc_, i64_w, i32_w]
            rfl
           refine take_ (i := 3) (N := some 36) (v := ?_) (a' := ?_) spec_GrdOk.mk4 rfl rfl (take_ofW HT_.out HW_.out (by kernel_rfl)) (fun _ _ _ h => h) (Or.inl ⟨by rfl, ?_⟩) hHeld ?_ ?_
           rotate_left
           ·rintro w' ⟨s0, s1, s2, s3, s4, s5, s6, s7⟩
            go_simp
            with_reducible rfl
           rotate_left
           ·simp only [Act.put, qa_, qb_, qc_, i64_w, i32_w]
            rfl
           refine pure_ (i := 4) (N := some 37) (v := ?_) (a' := ?_) spec_GrdOk.mk5 rfl rfl (any_of HT_.out (by kernel_rfl)) (fun _ _ _ h => h) (Or.inl ⟨by rfl, ?_⟩) ?_ ?_
           rotate_left
           ·intro w'
            go_simp
            with_reducible rfl
           rotate_left
           ·simp only [Act.put, qa_, qb_, qc_, i64_w, i32_w]
            rfl
           refine one_ (i := 5) (N := some 38) spec_GrdOk.mk6 rfl rfl (one_of HT_.out (by kernel_rfl)) (by decide) (fun K hK => ?_)
           refine goes_ Try.func39 (by kernel_rfl) rfl #[.int .i64 ((rd_T65 l0_2 x3_2).f0), .int .i64 0, .int .i64 (wrap64 (a0_0 - 1))] (by rfl) rfl rfl (by (try simp only [List.map_toArray, List.map_cons, List.map_nil]); first | done | rfl | (simp only [List.length_drop, List.length_take]; rfl)) ?_
           with_reducible refine (spec_l1In.calls ((rd_T65 l0_2 x3_2).f0) 0 (wrap64 (a0_0 - 1)) true _ A14.out).mono ?_
           rintro e w' ⟨rfl, ⟨nd, rfl⟩⟩
           refine ⟨_, rfl, ?_⟩
           refine hK.out _ _ ⟨(blk_cell BK301.out 0).trans rfl, (blk_cell BK301.out 1).trans rfl, (blk_cell BK301.out 2).trans rfl, (blk_cell BK301.out 3).trans rfl, (blk_cell BK301.out 4).trans rfl, (blk_cell BK297.out 0).trans rfl, (blk_cell BK297.out 1).trans rfl, (blk_cell BK297.out 2).trans rfl⟩ (fun hHeld => ?_)
           clear hK K
           refine norm_ (a' := ?_) ?_ ?_
           rotate_left
           ·show Act.put _ (some 38) _ = _
            simp only [Act.put, qa_, qb_, qc_, i64_w, i32_w]
            rfl
           refine pure_ (i := 6) (N := some 39) (v := ?_) (a' := ?_) spec_GrdOk.mk7 rfl rfl (any_of HT_.out (by kernel_rfl)) (fun _ _ _ h => h) (Or.inl ⟨by rfl, ?_⟩) ?_ ?_
           rotate_left
           ·intro w'
            go_simp
            with_reducible rfl
           rotate_left
           ·simp only [Act.put, qa_, qb_, qc_, i64_w, i32_w]
            rfl
           refine pure_ (i := 7) (N := some 40) (v := ?_) (a' := ?_) spec_GrdOk.mk8 rfl rfl (any_of HT_.out (by kernel_rfl)) (fun _ _ _ h => h) (Or.inl ⟨by rfl, ?_⟩) ?_ ?_
           rotate_left
           ·intro w'
            go_simp
            with_reducible rfl
           rotate_left
           ·simp only [Act.put, qa_, qb_, qc_, i64_w, i32_w]
            rfl
           refine pure_ (i := 8) (N := some 41) (v := ?_) (a' := ?_) spec_GrdOk.mk9 rfl rfl (any_of HT_.out (by kernel_rfl)) (fun _ _ _ h => h) (Or.inl ⟨by rfl, ?_⟩) ?_ ?_
           rotate_left
           ·intro w'
            go_simp
            with_reducible rfl
           rotate_left
           ·simp only [Act.put, qa_, qb_, qc_, i64_w, i32_w]
            rfl
           refine pure_ (i := 10) (N := some 43) (v := ?_) (a' := ?_) spec_GrdOk.mk10 rfl rfl (any_of HT_.out (by kernel_rfl)) (fun _ _ _ h => h) (Or.inl ⟨by rfl, ?_⟩) ?_ ?_
           rotate_left
           ·intro w'
            go_simp
            with_reducible rfl
           rotate_left
           ·simp only [Act.put, qa_, qb_, qc_, i64_w, i32_w]
            rfl
           refine take_ (i := 9) (N := some 42) (v := ?_) (a' := ?_) spec_GrdOk.mk11 rfl rfl (take_ofW HT_.out HW_.out (by kernel_rfl)) (fun _ _ _ h => h) (Or.inl ⟨by rfl, ?_⟩) hHeld ?_ ?_
           rotate_left
           ·rintro w' ⟨s0, s1, s2, s3, s4, s5, s6, s7⟩
            go_simp
            with_reducible rfl
           rotate_left
           ·simp only [Act.put, qa_, qb_, qc_, i64_w, i32_w]
            rfl
           refine take_ (i := 11) (N := some 44) (v := ?_) (a' := ?_) spec_GrdOk.mk12 rfl rfl (take_ofW HT_.out HW_.out (by kernel_rfl)) (fun _ _ _ h => h) (Or.inl ⟨by rfl, ?_⟩) hHeld ?_ ?_
           rotate_left
           ·rintro w' ⟨s0, s1, s2, s3, s4, s5, s6, s7⟩
            go_simp
            with_reducible rfl
           rotate_left
           ·simp only [Act.put, qa_, qb_, qc_, i64_w, i32_w]
            rfl
           refine pure_ (i := 12) (N := some 45) (v := ?_) (a' := ?_) spec_GrdOk.mk13 rfl rfl (any_of HT_.out (by kernel_rfl)) (fun _ _ _ h => h) (Or.inl ⟨by rfl, ?_⟩) ?_ ?_
           rotate_left
           ·intro w'
            go_simp
            with_reducible rfl
           rotate_left
           ·simp only [Act.put, qa_, qb_, qc_, i64_w, i32_w]
            rfl
           refine one_ (i := 13) (N := some 46) spec_GrdOk.mk14 rfl rfl (one_of HT_.out (by kernel_rfl)) (by decide) (fun K hK => ?_)
           refine goes_ Try.func39 (by kernel_rfl) rfl #[.int .i64 ((rd_T65 l0_2 x3_2).f1), .int .i64 0, .int .i64 (wrap64 (a0_1 - 1))] (by rfl) rfl rfl (by (try simp only [List.map_toArray, List.map_cons, List.map_nil]); first | done | rfl | (simp only [List.length_drop, List.length_take]; rfl)) ?_
           with_reducible refine (spec_l1In.calls ((rd_T65 l0_2 x3_2).f1) 0 (wrap64 (a0_1 - 1)) true _ A16.out).mono ?_
           rintro e w' ⟨rfl, ⟨nd, rfl⟩⟩
           refine ⟨_, rfl, ?_⟩
           refine hK.out _ _ ⟨(blk_cell BK301.out 0).trans rfl, (blk_cell BK301.out 1).trans rfl, (blk_cell BK301.out 2).trans rfl, (blk_cell BK301.out 3).trans rfl, (blk_cell BK301.out 4).trans rfl, (blk_cell BK297.out 0).trans rfl, (blk_cell BK297.out 1).trans rfl, (blk_cell BK297.out 2).trans rfl⟩ (fun hHeld => ?_)
           clear hK K
           refine norm_ (a' := ?_) ?_ ?_
           rotate_left
           ·show Act.put _ (some 46) _ = _
            simp only [Act.put, qa_, qb_, qc_, i64_w, i32_w]
            rfl
           refine pure_ (i := 14) (N := some 47) (v := ?_) (a' := ?_) spec_GrdOk.mk15 rfl rfl (any_of HT_.out (by kernel_rfl)) (fun _ _ _ h => h) (Or.inl ⟨by rfl, ?_⟩) ?_ ?_
           rotate_left
           ·intro w'
            go_simp
            with_reducible rfl
           rotate_left
           ·simp only [Act.put, qa_, qb_, qc_, i64_w, i32_w]
            rfl
           refine pure_ (i := 15) (N := some 48) (v := ?_) (a' := ?_) spec_GrdOk.mk16 rfl rfl (any_of HT_.out (by kernel_rfl)) (fun _ _ _ h => h) (Or.inl ⟨by rfl, ?_⟩) ?_ ?_
           rotate_left
           ·intro w'
            go_simp
            with_reducible rfl
           rotate_left
           ·simp only [Act.put, qa_, qb_, qc_, i64_w, i32_w]
            rfl
           refine pure_ (i := 16) (N := some 49) (v := ?_) (a' := ?_) spec_GrdOk.mk17 rfl rfl (any_of HT_.out (by kernel_rfl)) (fun _ _ _ h => h) (Or.inl ⟨by rfl, ?_⟩) ?_ ?_
           rotate_left
           ·intro w'
            go_simp
            with_reducible rfl
           rotate_left
           ·simp only [Act.put, qa_, qb_, qc_, i64_w, i32_w]
            rfl
           refine pure_ (i := 17) (N := some 50) (v := ?_) (a' := ?_) spec_GrdOk.mk18 rfl rfl (any_of HT_.out (by kernel_rfl)) (fun _ _ _ h => h) (Or.inl ⟨by rfl, ?_⟩) ?_ ?_
           rotate_left
           ·intro w'
            go_simp
            with_reducible rfl
           rotate_left
           ·simp only [Act.put, qa_, qb_, qc_, i64_w, i32_w]
            rfl
           refine pure_ (i := 19) (N := some 52) (v := ?_) (a' := ?_) spec_GrdOk.mk19 rfl rfl (any_of HT_.out (by kernel_rfl)) (fun _ _ _ h => h) (Or.inl ⟨by rfl, ?_⟩) ?_ ?_
           rotate_left
           ·intro w'
            go_simp
            with_reducible rfl
           rotate_left
           ·simp only [Act.put, qa_, qb_, qc_, i64_w, i32_w]
            rfl
           refine pure_ (i := 21) (N := some 54) (v := ?_) (a' := ?_) spec_GrdOk.mk20 rfl rfl (any_of HT_.out (by kernel_rfl)) (fun _ _ _ h => h) (Or.inl ⟨by rfl, ?_⟩) ?_ ?_
           rotate_left
           ·intro w'
            go_simp
            with_reducible rfl
           rotate_left
           ·simp only [Act.put, qa_, qb_, qc_, i64_w, i32_w]
            rfl
           refine take_ (i := 18) (N := some 51) (v := ?_) (a' := ?_) spec_GrdOk.mk21 rfl rfl (take_ofW HT_.out HW_.out (by kernel_rfl)) (fun _ _ _ h => h) (Or.inl ⟨by rfl, ?_⟩) hHeld ?_ ?_
           rotate_left
           ·rintro w' ⟨s0, s1, s2, s3, s4, s5, s6, s7⟩
            go_simp
            with_reducible rfl
           rotate_left
           ·simp only [Act.put, qa_, qb_, qc_, i64_w, i32_w]
            rfl
           refine take_ (i := 20) (N := some 53) (v := ?_) (a' := ?_) spec_GrdOk.mk22 rfl rfl (take_ofW HT_.out HW_.out (by kernel_rfl)) (fun _ _ _ h => h) (Or.inl ⟨by rfl, ?_⟩) hHeld ?_ ?_
           rotate_left
           ·rintro w' ⟨s0, s1, s2, s3, s4, s5, s6, s7⟩
            go_simp
            with_reducible rfl
           rotate_left
           ·simp only [Act.put, qa_, qb_, qc_, i64_w, i32_w]
            rfl
           refine take_ (i := 22) (N := some 55) (v := ?_) (a' := ?_) spec_GrdOk.mk23 rfl rfl (take_ofW HT_.out HW_.out (by kernel_rfl)) (fun _ _ _ h => h) (Or.inl ⟨by rfl, ?_⟩) hHeld ?_ ?_
           rotate_left
           ·rintro w' ⟨s0, s1, s2, s3, s4, s5, s6, s7⟩
            go_simp
            with_reducible rfl
           rotate_left
           ·simp only [Act.put, qa_, qb_, qc_, i64_w, i32_w]
            rfl
           refine pure_ (i := 23) (N := some 56) (v := ?_) (a' := ?_) spec_GrdOk.mk24 rfl rfl (any_of HT_.out (by kernel_rfl)) (fun _ _ _ h => h) (Or.inl ⟨by rfl, ?_⟩) ?_ ?_
           rotate_left
           ·intro w'
            go_simp
            with_reducible rfl
           rotate_left
           ·simp only [Act.put, qa_, qb_, qc_, i64_w, i32_w]
            rfl
           refine one_ (i := 24) (N := some 57) spec_GrdOk.mk25 rfl rfl (one_of HT_.out (by kernel_rfl)) (by decide) (fun K hK => ?_)
           refine goes_ Try.func39 (by kernel_rfl) rfl #[.int .i64 ((rd_T65 l0_2 x3_2).f2), .int .i64 1, .int .i64 (wrap64 (a0_0 - ((rd_T65 l0_2 x3_2).f0)))] (by rfl) rfl rfl (by (try simp only [List.map_toArray, List.map_cons, List.map_nil]); first | done | rfl | (simp only [List.length_drop, List.length_take]; rfl)) ?_
           with_reducible refine (spec_l1In.calls ((rd_T65 l0_2 x3_2).f2) 1 (wrap64 (a0_0 - ((rd_T65 l0_2 x3_2).f0))) false _ A18.out).mono ?_
           rintro e w' ⟨rfl, ⟨nd, rfl⟩⟩
           refine ⟨_, rfl, ?_⟩
           refine hK.out _ _ ⟨(blk_cell BK301.out 0).trans rfl, (blk_cell BK301.out 1).trans rfl, (blk_cell BK301.out 2).trans rfl, (blk_cell BK301.out 3).trans rfl, (blk_cell BK301.out 4).trans rfl, (blk_cell BK297.out 0).trans rfl, (blk_cell BK297.out 1).trans rfl, (blk_cell BK297.out 2).trans rfl⟩ (fun hHeld => ?_)
           clear hK K
           refine norm_ (a' := ?_) ?_ ?_
           rotate_left
           ·show Act.put _ (some 57) _ = _
            simp only [Act.put, qa_, qb_, qc_, i64_w, i32_w]
            rfl
           refine pure_ (i := 25) (N := some 58) (v := ?_) (a' := ?_) spec_GrdOk.mk26 rfl rfl (any_of HT_.out (by kernel_rfl)) (fun _ _ _ h => h) (Or.inl ⟨by rfl, ?_⟩) ?_ ?_
           rotate_left
           ·intro w'
            go_simp
            with_reducible rfl
           rotate_left
           ·simp only [Act.put, qa_, qb_, qc_, i64_w, i32_w]
            rfl
           refine pure_ (i := 26) (N := some 59) (v := ?_) (a' := ?_) spec_GrdOk.mk27 rfl rfl (any_of HT_.out (by kernel_rfl)) (fun _ _ _ h => h) (Or.inl ⟨by rfl, ?_⟩) ?_ ?_
           rotate_left
           ·intro w'
            go_simp
            with_reducible rfl
           rotate_left
           ·simp only [Act.put, qa_, qb_, qc_, i64_w, i32_w]
            rfl
           refine pure_ (i := 27) (N := some 60) (v := ?_) (a' := ?_) spec_GrdOk.mk28 rfl rfl (any_of HT_.out (by kernel_rfl)) (fun _ _ _ h => h) (Or.inl ⟨by rfl, ?_⟩) ?_ ?_
           rotate_left
           ·intro w'
            go_simp
            with_reducible rfl
           rotate_left
           ·simp only [Act.put, qa_, qb_, qc_, i64_w, i32_w]
            rfl
           refine pure_ (i := 28) (N := some 61) (v := undef) (a' := ?_) spec_GrdOk.mk29 rfl rfl (any_of HT_.out (by kernel_rfl)) (fun _ _ _ h => h) (Or.inr ⟨by rfl, rfl⟩) ?_ ?_
           rotate_left
           ·simp only [Act.put, qa_, qb_, qc_, i64_w, i32_w]
            rfl
           refine pure_ (i := 29) (N := some 62) (v := undef) (a' := ?_) spec_GrdOk.mk55 rfl rfl (any_of HT_.out (by kernel_rfl)) (fun _ _ _ h => h) (Or.inr ⟨by rfl, rfl⟩) ?_ ?_
           rotate_left
           ·simp only [Act.put, qa_, qb_, qc_, i64_w, i32_w]
            rfl
           refine pure_ (i := 30) (N := some 63) (v := undef) (a' := ?_) spec_GrdOk.mk56 rfl rfl (any_of HT_.out (by kernel_rfl)) (fun _ _ _ h => h) (Or.inr ⟨by rfl, rfl⟩) ?_ ?_
           rotate_left
           ·simp only [Act.put, qa_, qb_, qc_, i64_w, i32_w]
            rfl
           refine pure_ (i := 31) (N := some 64) (v := undef) (a' := ?_) spec_GrdOk.mk57 rfl rfl (any_of HT_.out (by kernel_rfl)) (fun _ _ _ h => h) (Or.inr ⟨by rfl, rfl⟩) ?_ ?_
           rotate_left
           ·simp only [Act.put, qa_, qb_, qc_, i64_w, i32_w]
            rfl
           refine pure_ (i := 32) (N := some 65) (v := undef) (a' := ?_) spec_GrdOk.mk33 rfl rfl (any_of HT_.out (by kernel_rfl)) (fun _ _ _ h => h) (Or.inr ⟨by rfl, rfl⟩) ?_ ?_
           rotate_left
           ·simp only [Act.put, qa_, qb_, qc_, i64_w, i32_w]
            rfl
           refine pure_ (i := 33) (N := some 66) (v := undef) (a' := ?_) spec_GrdOk.mk34 rfl rfl (any_of HT_.out (by kernel_rfl)) (fun _ _ _ h => h) (Or.inr ⟨by rfl, rfl⟩) ?_ ?_
           rotate_left
           ·simp only [Act.put, qa_, qb_, qc_, i64_w, i32_w]
            rfl
           refine pure_ (i := 34) (N := some 67) (v := undef) (a' := ?_) spec_GrdOk.mk35 rfl rfl (any_of HT_.out (by kernel_rfl)) (fun _ _ _ h => h) (Or.inr ⟨by rfl, rfl⟩) ?_ ?_
           rotate_left
           ·simp only [Act.put, qa_, qb_, qc_, i64_w, i32_w]
            rfl
           refine pure_ (i := 35) (N := some 68) (v := undef) (a' := ?_) spec_GrdOk.mk36 rfl rfl (any_of HT_.out (by kernel_rfl)) (fun _ _ _ h => h) (Or.inr ⟨by rfl, rfl⟩) ?_ ?_
           rotate_left
           ·simp only [Act.put, qa_, qb_, qc_, i64_w, i32_w]
            rfl
           refine pure_ (i := 36) (N := some 69) (v := undef) (a' := ?_) spec_GrdOk.mk37 rfl rfl (any_of HT_.out (by kernel_rfl)) (fun _ _ _ h => h) (Or.inr ⟨by rfl, rfl⟩) ?_ ?_
           rotate_left
           ·simp only [Act.put, qa_, qb_, qc_, i64_w, i32_w]
            rfl
           refine pure_ (i := 37) (N := some 70) (v := ?_) (a' := ?_) spec_GrdOk.mk38 rfl rfl (any_of HT_.out (by kernel_rfl)) (fun _ _ _ h => h) (Or.inl ⟨by rfl, ?_⟩) ?_ ?_
           rotate_left
           ·intro w'
            go_simp
            with_reducible rfl
           rotate_left
           ·simp only [Act.put, qa_, qb_, qc_, i64_w, i32_w]
            rfl
           refine pure_ (i := 38) (N := some 71) (v := ?_) (a' := ?_) spec_GrdOk.mk39 rfl rfl (any_of HT_.out (by kernel_rfl)) (fun _ _ _ h => h) (Or.inl ⟨by rfl, ?_⟩) ?_ ?_
           rotate_left
           ·intro w'
            go_simp
            with_reducible rfl
           rotate_left
           ·simp only [Act.put, qa_, qb_, qc_, i64_w, i32_w]
            rfl
           refine pure_ (i := 39) (N := some 72) (v := undef) (a' := ?_) spec_GrdOk.mk40 rfl rfl (any_of HT_.out (by kernel_rfl)) (fun _ _ _ h => h) (Or.inr ⟨by rfl, rfl⟩) ?_ ?_
           rotate_left
           ·simp only [Act.put, qa_, qb_, qc_, i64_w, i32_w]
            rfl
           refine pure_ (i := 40) (N := some 73) (v := undef) (a' := ?_) spec_GrdOk.mk41 rfl rfl (any_of HT_.out (by kernel_rfl)) (fun _ _ _ h => h) (Or.inr ⟨by rfl, rfl⟩) ?_ ?_
           rotate_left
           ·simp only [Act.put, qa_, qb_, qc_, i64_w, i32_w]
            rfl
           refine pure_ (i := 41) (N := some 74) (v := undef) (a' := ?_) spec_GrdOk.mk42 rfl rfl (any_of HT_.out (by kernel_rfl)) (fun _ _ _ h => h) (Or.inr ⟨by rfl, rfl⟩) ?_ ?_
           rotate_left
           ·simp only [Act.put, qa_, qb_, qc_, i64_w, i32_w]
            rfl
           refine pure_ (i := 42) (N := some 75) (v := undef) (a' := ?_) spec_GrdOk.mk43 rfl rfl (any_of HT_.out (by kernel_rfl)) (fun _ _ _ h => h) (Or.inr ⟨by rfl, rfl⟩) ?_ ?_
           rotate_left
           ·simp only [Act.put, qa_, qb_, qc_, i64_w, i32_w]
            rfl
           refine pure_ (i := 43) (N := some 76) (v := ?_) (a' := ?_) spec_GrdOk.mk44 rfl rfl (any_of HT_.out (by kernel_rfl)) (fun _ _ _ h => h) (Or.inl ⟨by rfl, ?_⟩) ?_ ?_
           rotate_left
           ·intro w'
            go_simp
            with_reducible rfl
           rotate_left
           ·simp only [Act.put, qa_, qb_, qc_, i64_w, i32_w]
            rfl
           refine pure_ (i := 44) (N := some 77) (v := ?_) (a' := ?_) spec_GrdOk.mk45 rfl rfl (any_of HT_.out (by kernel_rfl)) (fun _ _ _ h => h) (Or.inl ⟨by rfl, ?_⟩) ?_ ?_
           rotate_left
           ·intro w'
            go_simp
            with_reducible rfl
           rotate_left
           ·simp only [Act.put, qa_, qb_, qc_, i64_w, i32_w]
            rfl
           refine pure_ (i := 45) (N := some 78) (v := undef) (a' := ?_) spec_GrdOk.mk46 rfl rfl (any_of HT_.out (by kernel_rfl)) (fun _ _ _ h => h) (Or.inr ⟨by rfl, rfl⟩) ?_ ?_
           rotate_left
           ·simp only [Act.put, qa_, qb_, qc_, i64_w, i32_w]
            rfl
           refine pure_ (i := 46) (N := some 79) (v := undef) (a' := ?_) spec_GrdOk.mk54 rfl rfl (any_of HT_.out (by kernel_rfl)) (fun _ _ _ h => h) (Or.inr ⟨by rfl, rfl⟩) ?_ ?_
           rotate_left
           ·simp only [Act.put, qa_, qb_, qc_, i64_w, i32_w]
            rfl
           refine pure_ (i := 47) (N := some 80) (v := undef) (a' := ?_) spec_GrdOk.mk48 rfl rfl (any_of HT_.out (by kernel_rfl)) (fun _ _ _ h => h) (Or.inr ⟨by rfl, rfl⟩) ?_ ?_
           rotate_left
           ·simp only [Act.put, qa_, qb_, qc_, i64_w, i32_w]
            rfl
           refine pure_ (i := 48) (N := some 81) (v := undef) (a' := ?_) spec_GrdOk.mk49 rfl rfl (any_of HT_.out (by kernel_rfl)) (fun _ _ _ h => h) (Or.inr ⟨by rfl, rfl⟩) ?_ ?_
           rotate_left
           ·simp only [Act.put, qa_, qb_, qc_, i64_w, i32_w]
            rfl
           refine pure_ (i := 49) (N := some 82) (v := undef) (a' := ?_) spec_GrdOk.mk50 rfl rfl (any_of HT_.out (by kernel_rfl)) (fun _ _ _ h => h) (Or.inr ⟨by rfl, rfl⟩) ?_ ?_
           rotate_left
           ·simp only [Act.put, qa_, qb_, qc_, i64_w, i32_w]
            rfl
           refine pure_ (i := 50) (N := some 83) (v := undef) (a' := ?_) spec_GrdOk.mk51 rfl rfl (any_of HT_.out (by kernel_rfl)) (fun _ _ _ h => h) (Or.inr ⟨by rfl, rfl⟩) ?_ ?_
           rotate_left
           ·simp only [Act.put, qa_, qb_, qc_, i64_w, i32_w]
            rfl
           refine pure_ (i := 51) (N := some 84) (v := undef) (a' := ?_) spec_GrdOk.mk52 rfl rfl (any_of HT_.out (by kernel_rfl)) (fun _ _ _ h => h) (Or.inr ⟨by rfl, rfl⟩) ?_ ?_
           rotate_left
           ·simp only [Act.put, qa_, qb_, qc_, i64_w, i32_w]
            rfl
           refine pure_ (i := 52) (N := some 85) (v := ?_) (a' := ?_) spec_GrdOk.mk53 rfl rfl (any_of HT_.out (by kernel_rfl)) (fun _ _ _ h => h) (Or.inl ⟨by rfl, ?_⟩) ?_ ?_
           rotate_left
           ·intro w'
            go_simp
            with_reducible rfl
           rotate_left
           ·simp only [Act.put, qa_, qb_, qc_, i64_w, i32_w]
            rfl
           refine done_ (done_of HT_.out (by kernel_rfl)) ?_
           try go_wp2
           go_ret
           exact ⟨by first | rfl | (simp [errW_none, errW_some] <;> rfl) | (simp [*, errW_none, errW_some] <;> rfl), by repeat (first | (with_reducible first | exact HB.out | apply below_alloc | apply pw_below_drewN | apply below_drew1 | refine below_set ?_ GE297.out | refine below_set ?_ GE301.out) | exact HB.out)⟩
         ·replace c17 := Bool.eq_false_iff.mpr c17
          subst c17
          have H1 : (some false) = some r := by rw [if_neg (show ¬ (false = true) by decide)] at H; exact H
          clear H
          have H := H1
          clear H1
          obtain rfl := Option.some.inj H
          have hcz62_0 : wr.cell? ⟨gb297, 0, none⟩ = some (.int .i64 a0_0) := (blk_cell BK297.out 0).trans rfl
          have hcz62_1 : wr.cell? ⟨gb297, 1, none⟩ = some (.int .i64 a0_1) := (blk_cell BK297.out 1).trans rfl
          have hcz62_2 : wr.cell? ⟨gb297, 2, none⟩ = some (.slice A0_2 l0_2.length c0_2) := (blk_cell BK297.out 2).trans rfl
          have hfz62_0 := blk_frozen BK297.out 0
          have hfz62_1 := blk_frozen BK297.out 1
          have hfz62_2 := blk_frozen BK297.out 2
          have p300 : 0 ≤ (x3_2 : Int) := of_decide_eq_true (by first | (with_reducible assumption) | assumption)
          have q300 : x3_2 < (l0_2.length : Int) := of_decide_eq_true (by first | (with_reducible assumption) | assumption)
          obtain ⟨ad300, e300, hx300_0, hx300_1, hx300_2, hx300_3, hx300_4⟩ := at_T65 HR0_2.out x3_2 p300 q300
          cases e300
          replace hx300_0 := (HB.out.cell (World.block_lt_of_cell? w _ hx300_0)).trans hx300_0
          replace hx300_1 := (HB.out.cell (World.block_lt_of_cell? w _ hx300_1)).trans hx300_1
          replace hx300_2 := (HB.out.cell (World.block_lt_of_cell? w _ hx300_2)).trans hx300_2
          replace hx300_3 := (HB.out.cell (World.block_lt_of_cell? w _ hx300_3)).trans hx300_3
          replace hx300_4 := (HB.out.cell (World.block_lt_of_cell? w _ hx300_4)).trans hx300_4
          replace p300 := eq_true p300
          replace q300 := eq_true q300
          try go_wp2_with (first | ((with_reducible refine gate_dst (N := 4) rfl ?_); (try (refine gate_guard (by rfl) ?_; dsimp only)); refine box_event ?hg (N := 4) ?hd (cs := #[.int .i64 0, .int .i64 0, .int .i64 0, .int .i64 0, .int .i64 0]) (t := 65) ?hr ?_; (case hd => rfl); (case hg => rfl); (case hr => first | (go_simp; done) | (go_simp; rfl)); intro gb301 hg w63 hbox hb; have n0_ := Aside0.mk (blk_below (g := gb297) (o := .cells #[.int .i64 a0_0, .int .i64 a0_1, .slice (some ad300) l0_2.length c0_2] 42 (0, 0)) (by (with_reducible repeat (first | refine blk_drewN ?_ _ | refine blk_drew ?_ | refine blk_alloc ?_ _)); exact BK297.out) hb); have n1_ := Aside0.mk (below_step (by repeat (first | (with_reducible first | exact HB.out | apply below_alloc | apply pw_below_drewN | apply below_drew1 | refine below_set ?_ GE297.out) | exact HB.out)) hb); have n2_ := Aside0.mk (hbox); have n3_ := Aside0.mk ((by rw [hg]; exact (below_size (by repeat (first | (with_reducible first | exact HB.out | apply below_alloc | apply pw_below_drewN | apply below_drew1 | refine below_set ?_ GE297.out) | exact HB.out))) : w.heap.size ≤ gb301)); have n4_ := Aside0.mk ((by rw [hg]; exact (below_size (by repeat (first | (with_reducible first | exact HB.out | apply below_alloc | apply pw_below_drewN | apply below_drew1 | refine below_set ?_ GE297.out) | exact HB.out))) : w.heap.size ≤ gb301)); have n5_ := Aside0.mk ((by rw [hg]; exact Nat.ne_of_lt (blk_lt (g := gb297) (o := .cells #[.int .i64 a0_0, .int .i64 a0_1, .slice (some ad300) l0_2.length c0_2] 42 (0, 0)) (by (with_reducible repeat (first | refine blk_drewN ?_ _ | refine blk_drew ?_ | refine blk_alloc ?_ _)); exact BK297.out)) : gb297 ≠ gb301)); have n6_ := Aside0.mk ((by rw [hg]; exact Nat.ne_of_gt (blk_lt (g := gb297) (o := .cells #[.int .i64 a0_0, .int .i64 a0_1, .slice (some ad300) l0_2.length c0_2] 42 (0, 0)) (by (with_reducible repeat (first | refine blk_drewN ?_ _ | refine blk_drew ?_ | refine blk_alloc ?_ _)); exact BK297.out)) : gb301 ≠ gb297)); clear BK297; clear HB; have BK297 := n0_; have HB := n1_; have BK301 := n2_; have GW301 := n3_; have GE301 := n4_; have NB297_301 := n5_; have NB301_297 := n6_; clear n0_ n1_ n2_ n3_ n4_ n5_ n6_; clear hb hbox hg; have hnb64 := NB301_297.out; have hnc64 := NB297_301.out; have hcz65_0 : w63.cell? ⟨gb301, 0, none⟩ = some (.int .i64 0) := (blk_cell BK301.out 0).trans rfl; have hcz65_1 : w63.cell? ⟨gb301, 1, none⟩ = some (.int .i64 0) := (blk_cell BK301.out 1).trans rfl; have hcz65_2 : w63.cell? ⟨gb301, 2, none⟩ = some (.int .i64 0) := (blk_cell BK301.out 2).trans rfl; have hcz65_3 : w63.cell? ⟨gb301, 3, none⟩ = some (.int .i64 0) := (blk_cell BK301.out 3).trans rfl; have hcz65_4 : w63.cell? ⟨gb301, 4, none⟩ = some (.int .i64 0) := (blk_cell BK301.out 4).trans rfl; have hfz65_0 := blk_frozen BK301.out 0; have hfz65_1 := blk_frozen BK301.out 1; have hfz65_2 := blk_frozen BK301.out 2; have hfz65_3 := blk_frozen BK301.out 3; have hfz65_4 := blk_frozen BK301.out 4))
          have n0_ : Aside0 ((((((w63.setCell ⟨gb301, 0, none⟩ (.int .i64 ((rd_T65 l0_2 x3_2).f0))).setCell ⟨gb301, 1, none⟩ (.int .i64 ((rd_T65 l0_2 x3_2).f1))).setCell ⟨gb301, 2, none⟩ (.int .i64 ((rd_T65 l0_2 x3_2).f2))).setCell ⟨gb301, 3, none⟩ (.int .i64 ((rd_T65 l0_2 x3_2).f3))).setCell ⟨gb301, 4, none⟩ (.int .i64 ((rd_T65 l0_2 x3_2).f4))).heap[gb297]? = some (.cells #[.int .i64 a0_0, .int .i64 a0_1, .slice (some ad300) l0_2.length c0_2] 42 (0, 0))) := ⟨by (with_reducible repeat (first | refine blk_drewN ?_ _ | refine blk_drew ?_ | refine blk_alloc ?_ _)); refine blk_far ?_ NB297_301.out _; (with_reducible repeat (first | refine blk_drewN ?_ _ | refine blk_drew ?_ | refine blk_alloc ?_ _)); refine blk_far ?_ NB297_301.out _; (with_reducible repeat (first | refine blk_drewN ?_ _ | refine blk_drew ?_ | refine blk_alloc ?_ _)); refine blk_far ?_ NB297_301.out _; (with_reducible repeat (first | refine blk_drewN ?_ _ | refine blk_drew ?_ | refine blk_alloc ?_ _)); refine blk_far ?_ NB297_301.out _; (with_reducible repeat (first | refine blk_drewN ?_ _ | refine blk_drew ?_ | refine blk_alloc ?_ _)); refine blk_far ?_ NB297_301.out _; (with_reducible repeat (first | refine blk_drewN ?_ _ | refine blk_drew ?_ | refine blk_alloc ?_ _)); exact BK297.out⟩
          have n1_ : Aside0 ((((((w63.setCell ⟨gb301, 0, none⟩ (.int .i64 ((rd_T65 l0_2 x3_2).f0))).setCell ⟨gb301, 1, none⟩ (.int .i64 ((rd_T65 l0_2 x3_2).f1))).setCell ⟨gb301, 2, none⟩ (.int .i64 ((rd_T65 l0_2 x3_2).f2))).setCell ⟨gb301, 3, none⟩ (.int .i64 ((rd_T65 l0_2 x3_2).f3))).setCell ⟨gb301, 4, none⟩ (.int .i64 ((rd_T65 l0_2 x3_2).f4))).heap[gb301]? = some (.cells #[.int .i64 ((rd_T65 l0_2 x3_2).f0), .int .i64 ((rd_T65 l0_2 x3_2).f1), .int .i64 ((rd_T65 l0_2 x3_2).f2), .int .i64 ((rd_T65 l0_2 x3_2).f3), .int .i64 ((rd_T65 l0_2 x3_2).f4)] 65 (0, 0))) := ⟨by (with_reducible repeat (first | refine blk_drewN ?_ _ | refine blk_drew ?_ | refine blk_alloc ?_ _)); refine blk_put (cs := #[.int .i64 ((rd_T65 l0_2 x3_2).f0), .int .i64 ((rd_T65 l0_2 x3_2).f1), .int .i64 ((rd_T65 l0_2 x3_2).f2), .int .i64 ((rd_T65 l0_2 x3_2).f3), .int .i64 0]) ?_ 4 _ rfl; (with_reducible repeat (first | refine blk_drewN ?_ _ | refine blk_drew ?_ | refine blk_alloc ?_ _)); refine blk_put (cs := #[.int .i64 ((rd_T65 l0_2 x3_2).f0), .int .i64 ((rd_T65 l0_2 x3_2).f1), .int .i64 ((rd_T65 l0_2 x3_2).f2), .int .i64 0, .int .i64 0]) ?_ 3 _ rfl; (with_reducible repeat (first | refine blk_drewN ?_ _ | refine blk_drew ?_ | refine blk_alloc ?_ _)); refine blk_put (cs := #[.int .i64 ((rd_T65 l0_2 x3_2).f0), .int .i64 ((rd_T65 l0_2 x3_2).f1), .int .i64 0, .int .i64 0, .int .i64 0]) ?_ 2 _ rfl; (with_reducible repeat (first | refine blk_drewN ?_ _ | refine blk_drew ?_ | refine blk_alloc ?_ _)); refine blk_put (cs := #[.int .i64 ((rd_T65 l0_2 x3_2).f0), .int .i64 0, .int .i64 0, .int .i64 0, .int .i64 0]) ?_ 1 _ rfl; (with_reducible repeat (first | refine blk_drewN ?_ _ | refine blk_drew ?_ | refine blk_alloc ?_ _)); refine blk_put (cs := #[.int .i64 0, .int .i64 0, .int .i64 0, .int .i64 0, .int .i64 0]) ?_ 0 _ rfl; (with_reducible repeat (first | refine blk_drewN ?_ _ | refine blk_drew ?_ | refine blk_alloc ?_ _)); exact BK301.out⟩
          have n2_ : Aside0 (Below w.heap.size w (((((w63.setCell ⟨gb301, 0, none⟩ (.int .i64 ((rd_T65 l0_2 x3_2).f0))).setCell ⟨gb301, 1, none⟩ (.int .i64 ((rd_T65 l0_2 x3_2).f1))).setCell ⟨gb301, 2, none⟩ (.int .i64 ((rd_T65 l0_2 x3_2).f2))).setCell ⟨gb301, 3, none⟩ (.int .i64 ((rd_T65 l0_2 x3_2).f3))).setCell ⟨gb301, 4, none⟩ (.int .i64 ((rd_T65 l0_2 x3_2).f4)))) := ⟨by repeat (first | (with_reducible first | exact HB.out | apply below_alloc | apply pw_below_drewN | apply below_drew1 | refine below_set ?_ GE297.out | refine below_set ?_ GE301.out) | exact HB.out)⟩
          (try clear BK297)
          (try clear BK301)
          (try clear HB)
          generalize (((((w63.setCell ⟨gb301, 0, none⟩ (.int .i64 ((rd_T65 l0_2 x3_2).f0))).setCell ⟨gb301, 1, none⟩ (.int .i64 ((rd_T65 l0_2 x3_2).f1))).setCell ⟨gb301, 2, none⟩ (.int .i64 ((rd_T65 l0_2 x3_2).f2))).setCell ⟨gb301, 3, none⟩ (.int .i64 ((rd_T65 l0_2 x3_2).f3))).setCell ⟨gb301, 4, none⟩ (.int .i64 ((rd_T65 l0_2 x3_2).f4))) = w66 at n0_ n1_ n2_ ⊢
          have BK297 := n0_
          have BK301 := n1_
          have HB := n2_
          clear n0_ n1_ n2_
          have n0_ := Aside0.mk (blk_drew BK297.out)
          have n1_ := Aside0.mk (blk_drew BK301.out)
          have n2_ := Aside0.mk (below_drew1 HB.out)
          clear BK297
          clear BK301
          clear HB
          have BK297 := n0_
          have BK301 := n1_
          have HB := n2_
          clear n0_ n1_ n2_
          refine start_ (n := 53) (S := fun w' => w'.cell? ⟨gb301, 0, none⟩ = some (.int .i64 ((rd_T65 l0_2 x3_2).f0)) ∧ w'.cell? ⟨gb301, 1, none⟩ = some (.int .i64 ((rd_T65 l0_2 x3_2).f1)) ∧ w'.cell? ⟨gb301, 2, none⟩ = some (.int .i64 ((rd_T65 l0_2 x3_2).f2)) ∧ w'.cell? ⟨gb301, 3, none⟩ = some (.int .i64 ((rd_T65 l0_2 x3_2).f3)) ∧ w'.cell? ⟨gb301, 4, none⟩ = some (.int .i64 ((rd_T65 l0_2 x3_2).f4)) ∧ w'.cell? ⟨gb297, 0, none⟩ = some (.int .i64 a0_0) ∧ w'.cell? ⟨gb297, 1, none⟩ = some (.int .i64 a0_1) ∧ w'.cell? ⟨gb297, 2, none⟩ = some (.slice (some ad300) l0_2.length c0_2)) (ds := []) spec_GrdOk.mk0 (by kernel_rfl) rfl rfl ⟨(blk_cell BK301.out 0).trans rfl, (blk_cell BK301.out 1).trans rfl, (blk_cell BK301.out 2).trans rfl, (blk_cell BK301.out 3).trans rfl, (blk_cell BK301.out 4).trans rfl, (blk_cell BK297.out 0).trans rfl, (blk_cell BK297.out 1).trans rfl, (blk_cell BK297.out 2).trans rfl⟩ (fun hHeld => ?_); refine with_tabW spec_GrdOk.tab7 spec_GrdOk.bits7 (fun HT_ HW_ => ?_)
          generalize w66.drew = w67 at BK297 BK301 HB hHeld ⊢
          refine pure_ (i := 0) (N := some 33) (v := ?_) (a' := ?_) spec_GrdOk.mk1 rfl rfl (any_of HT_.out (by kernel_rfl)) (fun _ _ _ h => h) (Or.inl ⟨by rfl, ?_⟩) ?_ ?_
          rotate_left
          ·intro w'
           go_simp
           with_reducible rfl
          rotate_left
          ·simp only [Act.put, qa_, qb_, qc_, i64_w, i32_w]
           rfl
          refine pure_ (i := 2) (N := some 35) (v := ?_) (a' := ?_) spec_GrdOk.mk2 rfl rfl (any_of HT_.out (by kernel_rfl)) (fun _ _ _ h => h) (Or.inl ⟨by rfl, ?_⟩) ?_ ?_
          rotate_left
          ·intro w'
           go_simp
           with_reducible rfl
          rotate_left
          ·simp only [Act.put, qa_, qb_, qc_, i64_w, i32_w]
           rfl
          refine take_ (i := 1) (N := some 34) (v := ?_) (a' := ?_) spec_GrdOk.mk3 rfl rfl (take_ofW HT_.out HW_.out (by kernel_rfl)) (fun _ _ _ h => h) (Or.inl ⟨by rfl, ?_⟩) hHeld ?_ ?_
          rotate_left
          ·rintro w' ⟨s0, s1, s2, s3, s4, s5, s6, s7⟩
           go_simp
           with_reducible rfl
          rotate_left
          ·simp only [Act.put, qa_, qb_, qc_, i64_w, i32_w]
           rfl
          refine take_ (i := 3) (N := some 36) (v := ?_) (a' := ?_) spec_GrdOk.mk4 rfl rfl (take_ofW HT_.out HW_.out (by kernel_rfl)) (fun _ _ _ h => h) (Or.inl ⟨by rfl, ?_⟩) hHeld ?_ ?_
          rotate_left
          ·rintro w' ⟨s0, s1, s2, s3, s4, s5, s6, s7⟩
           go_simp
           with_reducible rfl
          rotate_left
          ·simp only [Act.put, qa_, qb_, qc_, i64_w, i32_w]
           rfl
          refine pure_ (i := 4) (N := some 37) (v := ?_) (a' := ?_) spec_GrdOk.mk5 rfl rfl (any_of HT_.out (by kernel_rfl)) (fun _ _ _ h => h) (Or.inl ⟨by rfl, ?_⟩) ?_ ?_
          rotate_left
          ·intro w'
           go_simp
           with_reducible rfl
          rotate_left
          ·simp only [Act.put, qa_, qb_, qc_, i64_w, i32_w]
           rfl
          refine one_ (i := 5) (N := some 38) spec_GrdOk.mk6 rfl rfl (one_of HT_.out (by kernel_rfl)) (by decide) (fun K hK => ?_)
          refine goes_ Try.func39 (by kernel_rfl) rfl #[.int .i64 ((rd_T65 l0_2 x3_2).f0), .int .i64 0, .int .i64 (wrap64 (a0_0 - 1))] (by rfl) rfl rfl (by (try simp only [List.map_toArray, List.map_cons, List.map_nil]); first | done | rfl | (simp only [List.length_drop, List.length_take]; rfl)) ?_
          with_reducible refine (spec_l1In.calls ((rd_T65 l0_2 x3_2).f0) 0 (wrap64 (a0_0 - 1)) true _ A14.out).mono ?_
          rintro e w' ⟨rfl, ⟨nd, rfl⟩⟩
          refine ⟨_, rfl, ?_⟩
          refine hK.out _ _ ⟨(blk_cell BK301.out 0).trans rfl, (blk_cell BK301.out 1).trans rfl, (blk_cell BK301.out 2).trans rfl, (blk_cell BK301.out 3).trans rfl, (blk_cell BK301.out 4).trans rfl, (blk_cell BK297.out 0).trans rfl, (blk_cell BK297.out 1).trans rfl, (blk_cell BK297.out 2).trans rfl⟩ (fun hHeld => ?_)
          clear hK K
          refine norm_ (a' := ?_) ?_ ?_
          rotate_left
          ·show Act.put _ (some 38) _ = _
           simp only [Act.put, qa_, qb_, qc_, i64_w, i32_w]
           rfl
          refine pure_ (i := 6) (N := some 39) (v := ?_) (a' := ?_) spec_GrdOk.mk7 rfl rfl (any_of HT_.out (by kernel_rfl)) (fun _ _ _ h => h) (Or.inl ⟨by rfl, ?_⟩) ?_ ?_
          rotate_left
          ·intro w'
           go_simp
           with_reducible rfl
          rotate_left
          ·simp only [Act.put, qa_, qb_, qc_, i64_w, i32_w]
           rfl
          refine pure_ (i := 7) (N := some 40) (v := ?_) (a' := ?_) spec_GrdOk.mk8 rfl rfl (any_of HT_.out (by kernel_rfl)) (fun _ _ _ h => h) (Or.inl ⟨by rfl, ?_⟩) ?_ ?_
          rotate_left
          ·intro w'
           go_simp
           with_reducible rfl
          rotate_left
          ·simp only [Act.put, qa_, qb_, qc_, i64_w, i32_w]
           rfl
          refine pure_ (i := 8) (N := some 41) (v := ?_) (a' := ?_) spec_GrdOk.mk9 rfl rfl (any_of HT_.out (by kernel_rfl)) (fun _ _ _ h => h) (Or.inl ⟨by rfl, ?_⟩) ?_ ?_
          rotate_left
          ·intro w'
           go_simp
           with_reducible rfl
          rotate_left
          ·simp only [Act.put, qa_, qb_, qc_, i64_w, i32_w]
           rfl
          refine pure_ (i := 10) (N := some 43) (v := ?_) (a' := ?_) spec_GrdOk.mk10 rfl rfl (any_of HT_.out (by kernel_rfl)) (fun _ _ _ h => h) (Or.inl ⟨by rfl, ?_⟩) ?_ ?_
          rotate_left
          ·intro w'
           go_simp
           with_reducible rfl
          rotate_left
          ·simp only [Act.put, qa_, qb_, qc_, i64_w, i32_w]
           rfl
          refine take_ (i := 9) (N := some 42) (v := ?_) (a' := ?_) spec_GrdOk.mk11 rfl rfl (take_ofW HT_.out HW_.out (by kernel_rfl)) (fun _ _ _ h => h) (Or.inl ⟨by rfl, ?_⟩) hHeld ?_ ?_
          rotate_left
          ·rintro w' ⟨s0, s1, s2, s3, s4, s5, s6, s7⟩
           go_simp
           with_reducible rfl
          rotate_left
          ·simp only [Act.put, qa_, qb_, qc_, i64_w, i32_w]
           rfl
          refine take_ (i := 11) (N := some 44) (v := ?_) (a' := ?_) spec_GrdOk.mk12 rfl rfl (take_ofW HT_.out HW_.out (by kernel_rfl)) (fun _ _ _ h => h) (Or.inl ⟨by rfl, ?_⟩) hHeld ?_ ?_
          rotate_left
          ·rintro w' ⟨s0, s1, s2, s3, s4, s5, s6, s7⟩
           go_simp
           with_reducible rfl
          rotate_left
          ·simp only [Act.put, qa_, qb_, qc_, i64_w, i32_w]
           rfl
          refine pure_ (i := 12) (N := some 45) (v := ?_) (a' := ?_) spec_GrdOk.mk13 rfl rfl (any_of HT_.out (by kernel_rfl)) (fun _ _ _ h => h) (Or.inl ⟨by rfl, ?_⟩) ?_ ?_
          rotate_left
          ·intro w'
           go_simp
           with_reducible rfl
          rotate_left
          ·simp only [Act.put, qa_, qb_, qc_, i64_w, i32_w]
           rfl
          refine one_ (i := 13) (N := some 46) spec_GrdOk.mk14 rfl rfl (one_of HT_.out (by kernel_rfl)) (by decide) (fun K hK => ?_)
          refine goes_ Try.func39 (by kernel_rfl) rfl #[.int .i64 ((rd_T65 l0_2 x3_2).f1), .int .i64 0, .int .i64 (wrap64 (a0_1 - 1))] (by rfl) rfl rfl (by (try simp only [List.map_toArray, List.map_cons, List.map_nil]); first | done | rfl | (simp only [List.length_drop, List.length_take]; rfl)) ?_
          with_reducible refine (spec_l1In.calls ((rd_T65 l0_2 x3_2).f1) 0 (wrap64 (a0_1 - 1)) false _ A16.out).mono ?_
          rintro e w' ⟨rfl, ⟨nd, rfl⟩⟩
          refine ⟨_, rfl, ?_⟩
          refine hK.out _ _ ⟨(blk_cell BK301.out 0).trans rfl, (blk_cell BK301.out 1).trans rfl, (blk_cell BK301.out 2).trans rfl, (blk_cell BK301.out 3).trans rfl, (blk_cell BK301.out 4).trans rfl, (blk_cell BK297.out 0).trans rfl, (blk_cell BK297.out 1).trans rfl, (blk_cell BK297.out 2).trans rfl⟩ (fun hHeld => ?_)
          clear hK K
          refine norm_ (a' := ?_) ?_ ?_
          rotate_left
          ·show Act.put _ (some 46) _ = _
           simp only [Act.put, qa_, qb_, qc_, i64_w, i32_w]
           rfl
          refine pure_ (i := 14) (N := some 47) (v := ?_) (a' := ?_) spec_GrdOk.mk15 rfl rfl (any_of HT_.out (by kernel_rfl)) (fun _ _ _ h => h) (Or.inl ⟨by rfl, ?_⟩) ?_ ?_
          rotate_left
          ·intro w'
           go_simp
           with_reducible rfl
          rotate_left
          ·simp only [Act.put, qa_, qb_, qc_, i64_w, i32_w]
           rfl
          refine pure_ (i := 15) (N := some 48) (v := ?_) (a' := ?_) spec_GrdOk.mk16 rfl rfl (any_of HT_.out (by kernel_rfl)) (fun _ _ _ h => h) (Or.inl ⟨by rfl, ?_⟩) ?_ ?_
          rotate_left
          ·intro w'
           go_simp
           with_reducible rfl
          rotate_left
          ·simp only [Act.put, qa_, qb_, qc_, i64_w, i32_w]
           rfl
          refine pure_ (i := 16) (N := some 49) (v := ?_) (a' := ?_) spec_GrdOk.mk17 rfl rfl (any_of HT_.out (by kernel_rfl)) (fun _ _ _ h => h) (Or.inl ⟨by rfl, ?_⟩) ?_ ?_
          rotate_left
          ·intro w'
           go_simp
           with_reducible rfl
          rotate_left
          ·simp only [Act.put, qa_, qb_, qc_, i64_w, i32_w]
           rfl
          refine pure_ (i := 17) (N := some 50) (v := undef) (a' := ?_) spec_GrdOk.mk18 rfl rfl (any_of HT_.out (by kernel_rfl)) (fun _ _ _ h => h) (Or.inr ⟨by rfl, rfl⟩) ?_ ?_
          rotate_left
          ·simp only [Act.put, qa_, qb_, qc_, i64_w, i32_w]
           rfl
          refine pure_ (i := 18) (N := some 51) (v := undef) (a' := ?_) spec_GrdOk.mk58 rfl rfl (any_of HT_.out (by kernel_rfl)) (fun _ _ _ h => h) (Or.inr ⟨by rfl, rfl⟩) ?_ ?_
          rotate_left
          ·simp only [Act.put, qa_, qb_, qc_, i64_w, i32_w]
           rfl
          refine pure_ (i := 19) (N := some 52) (v := undef) (a' := ?_) spec_GrdOk.mk59 rfl rfl (any_of HT_.out (by kernel_rfl)) (fun _ _ _ h => h) (Or.inr ⟨by rfl, rfl⟩) ?_ ?_
          rotate_left
          ·simp only [Act.put, qa_, qb_, qc_, i64_w, i32_w]
           rfl
          refine pure_ (i := 20) (N := some 53) (v := undef) (a' := ?_) spec_GrdOk.mk60 rfl rfl (any_of HT_.out (by kernel_rfl)) (fun _ _ _ h => h) (Or.inr ⟨by rfl, rfl⟩) ?_ ?_
          rotate_left
          ·simp only [Act.put, qa_, qb_, qc_, i64_w, i32_w]
           rfl
          refine pure_ (i := 21) (N := some 54) (v := undef) (a' := ?_) spec_GrdOk.mk22 rfl rfl (any_of HT_.out (by kernel_rfl)) (fun _ _ _ h => h) (Or.inr ⟨by rfl, rfl⟩) ?_ ?_
          rotate_left
          ·simp only [Act.put, qa_, qb_, qc_, i64_w, i32_w]
           rfl
          refine pure_ (i := 22) (N := some 55) (v := undef) (a' := ?_) spec_GrdOk.mk23 rfl rfl (any_of HT_.out (by kernel_rfl)) (fun _ _ _ h => h) (Or.inr ⟨by rfl, rfl⟩) ?_ ?_
          rotate_left
          ·simp only [Act.put, qa_, qb_, qc_, i64_w, i32_w]
           rfl
          refine pure_ (i := 23) (N := some 56) (v := undef) (a' := ?_) spec_GrdOk.mk24 rfl rfl (any_of HT_.out (by kernel_rfl)) (fun _ _ _ h => h) (Or.inr ⟨by rfl, rfl⟩) ?_ ?_
          rotate_left
          ·simp only [Act.put, qa_, qb_, qc_, i64_w, i32_w]
           rfl
          refine pure_ (i := 24) (N := some 57) (v := undef) (a' := ?_) spec_GrdOk.mk25 rfl rfl (any_of HT_.out (by kernel_rfl)) (fun _ _ _ h => h) (Or.inr ⟨by rfl, rfl⟩) ?_ ?_
          rotate_left
          ·simp only [Act.put, qa_, qb_, qc_, i64_w, i32_w]
           rfl
          refine pure_ (i := 25) (N := some 58) (v := undef) (a' := ?_) spec_GrdOk.mk26 rfl rfl (any_of HT_.out (by kernel_rfl)) (fun _ _ _ h => h) (Or.inr ⟨by rfl, rfl⟩) ?_ ?_
          rotate_left
          ·simp only [Act.put, qa_, qb_, qc_, i64_w, i32_w]
           rfl
          refine pure_ (i := 26) (N := some 59) (v := ?_) (a' := ?_) spec_GrdOk.mk27 rfl rfl (any_of HT_.out (by kernel_rfl)) (fun _ _ _ h => h) (Or.inl ⟨by rfl, ?_⟩) ?_ ?_
          rotate_left
          ·intro w'
           go_simp
           with_reducible rfl
          rotate_left
          ·simp only [Act.put, qa_, qb_, qc_, i64_w, i32_w]
           rfl
          refine pure_ (i := 27) (N := some 60) (v := ?_) (a' := ?_) spec_GrdOk.mk28 rfl rfl (any_of HT_.out (by kernel_rfl)) (fun _ _ _ h => h) (Or.inl ⟨by rfl, ?_⟩) ?_ ?_
          rotate_left
          ·intro w'
           go_simp
           with_reducible rfl
          rotate_left
          ·simp only [Act.put, qa_, qb_, qc_, i64_w, i32_w]
           rfl
          refine pure_ (i := 28) (N := some 61) (v := undef) (a' := ?_) spec_GrdOk.mk29 rfl rfl (any_of HT_.out (by kernel_rfl)) (fun _ _ _ h => h) (Or.inr ⟨by rfl, rfl⟩) ?_ ?_
          rotate_left
          ·simp only [Act.put, qa_, qb_, qc_, i64_w, i32_w]
           rfl
          refine pure_ (i := 29) (N := some 62) (v := undef) (a' := ?_) spec_GrdOk.mk55 rfl rfl (any_of HT_.out (by kernel_rfl)) (fun _ _ _ h => h) (Or.inr ⟨by rfl, rfl⟩) ?_ ?_
          rotate_left
          ·simp only [Act.put, qa_, qb_, qc_, i64_w, i32_w]
           rfl
          refine pure_ (i := 30) (N := some 63) (v := undef) (a' := ?_) spec_GrdOk.mk56 rfl rfl (any_of HT_.out (by kernel_rfl)) (fun _ _ _ h => h) (Or.inr ⟨by rfl, rfl⟩) ?_ ?_
          rotate_left
          ·simp only [Act.put, qa_, qb_, qc_, i64_w, i32_w]
           rfl
          refine pure_ (i := 31) (N := some 64) (v := undef) (a' := ?_) spec_GrdOk.mk57 rfl rfl (any_of HT_.out (by kernel_rfl)) (fun _ _ _ h => h) (Or.inr ⟨by rfl, rfl⟩) ?_ ?_
          rotate_left
          ·simp only [Act.put, qa_, qb_, qc_, i64_w, i32_w]
           rfl
          refine pure_ (i := 32) (N := some 65) (v := undef) (a' := ?_) spec_GrdOk.mk33 rfl rfl (any_of HT_.out (by kernel_rfl)) (fun _ _ _ h => h) (Or.inr ⟨by rfl, rfl⟩) ?_ ?_
          rotate_left
          ·simp only [Act.put, qa_, qb_, qc_, i64_w, i32_w]
           rfl
          refine pure_ (i := 33) (N := some 66) (v := undef) (a' := ?_) spec_GrdOk.mk34 rfl rfl (any_of HT_.out (by kernel_rfl)) (fun _ _ _ h => h) (Or.inr ⟨by rfl, rfl⟩) ?_ ?_
          rotate_left
          ·simp only [Act.put, qa_, qb_, qc_, i64_w, i32_w]
           rfl
          refine pure_ (i := 34) (N := some 67) (v := undef) (a' := ?_) spec_GrdOk.mk35 rfl rfl (any_of HT_.out (by kernel_rfl)) (fun _ _ _ h => h) (Or.inr ⟨by rfl, rfl⟩) ?_ ?_
          rotate_left
          ·simp only [Act.put, qa_, qb_, qc_, i64_w, i32_w]
           rfl
          refine pure_ (i := 35) (N := some 68) (v := undef) (a' := ?_) spec_GrdOk.mk36 rfl rfl (any_of HT_.out (by kernel_rfl)) (fun _ _ _ h => h) (Or.inr ⟨by rfl, rfl⟩) ?_ ?_
          rotate_left
          ·simp only [Act.put, qa_, qb_, qc_, i64_w, i32_w]
           rfl
          refine pure_ (i := 36) (N := some 69) (v := undef) (a' := ?_) spec_GrdOk.mk37 rfl rfl (any_of HT_.out (by kernel_rfl)) (fun _ _ _ h => h) (Or.inr ⟨by rfl, rfl⟩) ?_ ?_
          rotate_left
          ·simp only [Act.put, qa_, qb_, qc_, i64_w, i32_w]
           rfl
          refine pure_ (i := 37) (N := some 70) (v := ?_) (a' := ?_) spec_GrdOk.mk38 rfl rfl (any_of HT_.out (by kernel_rfl)) (fun _ _ _ h => h) (Or.inl ⟨by rfl, ?_⟩) ?_ ?_
          rotate_left
          ·intro w'
           go_simp
           with_reducible rfl
          rotate_left
          ·simp only [Act.put, qa_, qb_, qc_, i64_w, i32_w]
           rfl
          refine pure_ (i := 38) (N := some 71) (v := ?_) (a' := ?_) spec_GrdOk.mk39 rfl rfl (any_of HT_.out (by kernel_rfl)) (fun _ _ _ h => h) (Or.inl ⟨by rfl, ?_⟩) ?_ ?_
          rotate_left
          ·intro w'
           go_simp
           with_reducible rfl
          rotate_left
          ·simp only [Act.put, qa_, qb_, qc_, i64_w, i32_w]
           rfl
          refine pure_ (i := 39) (N := some 72) (v := undef) (a' := ?_) spec_GrdOk.mk40 rfl rfl (any_of HT_.out (by kernel_rfl)) (fun _ _ _ h => h) (Or.inr ⟨by rfl, rfl⟩) ?_ ?_
          rotate_left
          ·simp only [Act.put, qa_, qb_, qc_, i64_w, i32_w]
           rfl
          refine pure_ (i := 40) (N := some 73) (v := undef) (a' := ?_) spec_GrdOk.mk41 rfl rfl (any_of HT_.out (by kernel_rfl)) (fun _ _ _ h => h) (Or.inr ⟨by rfl, rfl⟩) ?_ ?_
          rotate_left
          ·simp only [Act.put, qa_, qb_, qc_, i64_w, i32_w]
           rfl
          refine pure_ (i := 41) (N := some 74) (v := undef) (a' := ?_) spec_GrdOk.mk42 rfl rfl (any_of HT_.out (by kernel_rfl)) (fun _ _ _ h => h) (Or.inr ⟨by rfl, rfl⟩) ?_ ?_
          rotate_left
          ·simp only [Act.put, qa_, qb_, qc_, i64_w, i32_w]
           rfl
          refine pure_ (i := 42) (N := some 75) (v := undef) (a' := ?_) spec_GrdOk.mk43 rfl rfl (any_of HT_.out (by kernel_rfl)) (fun _ _ _ h => h) (Or.inr ⟨by rfl, rfl⟩) ?_ ?_
          rotate_left
          ·simp only [Act.put, qa_, qb_, qc_, i64_w, i32_w]
           rfl
          refine pure_ (i := 43) (N := some 76) (v := ?_) (a' := ?_) spec_GrdOk.mk44 rfl rfl (any_of HT_.out (by kernel_rfl)) (fun _ _ _ h => h) (Or.inl ⟨by rfl, ?_⟩) ?_ ?_
          rotate_left
          ·intro w'
           go_simp
           with_reducible rfl
          rotate_left
          ·simp only [Act.put, qa_, qb_, qc_, i64_w, i32_w]
           rfl
          refine pure_ (i := 44) (N := some 77) (v := ?_) (a' := ?_) spec_GrdOk.mk45 rfl rfl (any_of HT_.out (by kernel_rfl)) (fun _ _ _ h => h) (Or.inl ⟨by rfl, ?_⟩) ?_ ?_
          rotate_left
          ·intro w'
           go_simp
           with_reducible rfl
          rotate_left
          ·simp only [Act.put, qa_, qb_, qc_, i64_w, i32_w]
           rfl
          refine pure_ (i := 45) (N := some 78) (v := undef) (a' := ?_) spec_GrdOk.mk46 rfl rfl (any_of HT_.out (by kernel_rfl)) (fun _ _ _ h => h) (Or.inr ⟨by rfl, rfl⟩) ?_ ?_
          rotate_left
          ·simp only [Act.put, qa_, qb_, qc_, i64_w, i32_w]
           rfl
          refine pure_ (i := 46) (N := some 79) (v := undef) (a' := ?_) spec_GrdOk.mk54 rfl rfl (any_of HT_.out (by kernel_rfl)) (fun _ _ _ h => h) (Or.inr ⟨by rfl, rfl⟩) ?_ ?_
          rotate_left
          ·simp only [Act.put, qa_, qb_, qc_, i64_w, i32_w]
           rfl
          refine pure_ (i := 47) (N := some 80) (v := undef) (a' := ?_) spec_GrdOk.mk48 rfl rfl (any_of HT_.out (by kernel_rfl)) (fun _ _ _ h => h) (Or.inr ⟨by rfl, rfl⟩) ?_ ?_
          rotate_left
          ·simp only [Act.put, qa_, qb_, qc_, i64_w, i32_w]
           rfl
          refine pure_ (i := 48) (N := some 81) (v := undef) (a' := ?_) spec_GrdOk.mk49 rfl rfl (any_of HT_.out (by kernel_rfl)) (fun _ _ _ h => h) (Or.inr ⟨by rfl, rfl⟩) ?_ ?_
          rotate_left
          ·simp only [Act.put, qa_, qb_, qc_, i64_w, i32_w]
           rfl
          refine pure_ (i := 49) (N := some 82) (v := undef) (a' := ?_) spec_GrdOk.mk50 rfl rfl (any_of HT_.out (by kernel_rfl)) (fun _ _ _ h => h) (Or.inr ⟨by rfl, rfl⟩) ?_ ?_
          rotate_left
          ·simp only [Act.put, qa_, qb_, qc_, i64_w, i32_w]
           rfl
          refine pure_ (i := 50) (N := some 83) (v := undef) (a' := ?_) spec_GrdOk.mk51 rfl rfl (any_of HT_.out (by kernel_rfl)) (fun _ _ _ h => h) (Or.inr ⟨by rfl, rfl⟩) ?_ ?_
          rotate_left
          ·simp only [Act.put, qa_, qb_, qc_, i64_w, i32_w]
           rfl
          refine pure_ (i := 51) (N := some 84) (v := undef) (a' := ?_) spec_GrdOk.mk52 rfl rfl (any_of HT_.out (by kernel_rfl)) (fun _ _ _ h => h) (Or.inr ⟨by rfl, rfl⟩) ?_ ?_
          rotate_left
          ·simp only [Act.put, qa_, qb_, qc_, i64_w, i32_w]
           rfl
          refine pure_ (i := 52) (N := some 85) (v := ?_) (a' := ?_) spec_GrdOk.mk53 rfl rfl (any_of HT_.out (by kernel_rfl)) (fun _ _ _ h => h) (Or.inl ⟨by rfl, ?_⟩) ?_ ?_
          rotate_left
          ·intro w'
           go_simp
           with_reducible rfl
          rotate_left
          ·simp only [Act.put, qa_, qb_, qc_, i64_w, i32_w]
           rfl
          refine done_ (done_of HT_.out (by kernel_rfl)) ?_
          try go_wp2
          go_ret
          exact ⟨by first | rfl | (simp [errW_none, errW_some] <;> rfl) | (simp [*, errW_none, errW_some] <;> rfl), by repeat (first | (with_reducible first | exact HB.out | apply below_alloc | apply pw_below_drewN | apply below_drew1 | refine below_set ?_ GE297.out | refine below_set ?_ GE301.out) | exact HB.out)⟩
        ·replace c15 := Bool.eq_false_iff.mpr c15
         subst c15
         have H1 : (some false) = some r := by rw [if_neg (show ¬ (false = true) by decide)] at H; exact H
         clear H
         have H := H1
         clear H1
         obtain rfl := Option.some.inj H
         have hcz68_0 : wr.cell? ⟨gb297, 0, none⟩ = some (.int .i64 a0_0) := (blk_cell BK297.out 0).trans rfl
         have hcz68_1 : wr.cell? ⟨gb297, 1, none⟩ = some (.int .i64 a0_1) := (blk_cell BK297.out 1).trans rfl
         have hcz68_2 : wr.cell? ⟨gb297, 2, none⟩ = some (.slice A0_2 l0_2.length c0_2) := (blk_cell BK297.out 2).trans rfl
         have hfz68_0 := blk_frozen BK297.out 0
         have hfz68_1 := blk_frozen BK297.out 1
         have hfz68_2 := blk_frozen BK297.out 2
         have p300 : 0 ≤ (x3_2 : Int) := of_decide_eq_true (by first | (with_reducible assumption) | assumption)
         have q300 : x3_2 < (l0_2.length : Int) := of_decide_eq_true (by first | (with_reducible assumption) | assumption)
         obtain ⟨ad300, e300, hx300_0, hx300_1, hx300_2, hx300_3, hx300_4⟩ := at_T65 HR0_2.out x3_2 p300 q300
         cases e300
         replace hx300_0 := (HB.out.cell (World.block_lt_of_cell? w _ hx300_0)).trans hx300_0
         replace hx300_1 := (HB.out.cell (World.block_lt_of_cell? w _ hx300_1)).trans hx300_1
         replace hx300_2 := (HB.out.cell (World.block_lt_of_cell? w _ hx300_2)).trans hx300_2
         replace hx300_3 := (HB.out.cell (World.block_lt_of_cell? w _ hx300_3)).trans hx300_3
         replace hx300_4 := (HB.out.cell (World.block_lt_of_cell? w _ hx300_4)).trans hx300_4
         replace p300 := eq_true p300
         replace q300 := eq_true q300
         try go_wp2_with (first | ((with_reducible refine gate_dst (N := 4) rfl ?_); (try (refine gate_guard (by rfl) ?_; dsimp only)); refine box_event ?hg (N := 4) ?hd (cs := #[.int .i64 0, .int .i64 0, .int .i64 0, .int .i64 0, .int .i64 0]) (t := 65) ?hr ?_; (case hd => rfl); (case hg => rfl); (case hr => first | (go_simp; done) | (go_simp; rfl)); intro gb301 hg w69 hbox hb; have n0_ := Aside0.mk (blk_below (g := gb297) (o := .cells #[.int .i64 a0_0, .int .i64 a0_1, .slice (some ad300) l0_2.length c0_2] 42 (0, 0)) (by (with_reducible repeat (first | refine blk_drewN ?_ _ | refine blk_drew ?_ | refine blk_alloc ?_ _)); exact BK297.out) hb); have n1_ := Aside0.mk (below_step (by repeat (first | (with_reducible first | exact HB.out | apply below_alloc | apply pw_below_drewN | apply below_drew1 | refine below_set ?_ GE297.out) | exact HB.out)) hb); have n2_ := Aside0.mk (hbox); have n3_ := Aside0.mk ((by rw [hg]; exact (below_size (by repeat (first | (with_reducible first | exact HB.out | apply below_alloc | apply pw_below_drewN | apply below_drew1 | refine below_set ?_ GE297.out) | exact HB.out))) : w.heap.size ≤ gb301)); have n4_ := Aside0.mk ((by rw [hg]; exact (below_size (by repeat (first | (with_reducible first | exact HB.out | apply below_alloc | apply pw_below_drewN | apply below_drew1 | refine below_set ?_ GE297.out) | exact HB.out))) : w.heap.size ≤ gb301)); have n5_ := Aside0.mk ((by rw [hg]; exact Nat.ne_of_lt (blk_lt (g := gb297) (o := .cells #[.int .i64 a0_0, .int .i64 a0_1, .slice (some ad300) l0_2.length c0_2] 42 (0, 0)) (by (with_reducible repeat (first | refine blk_drewN ?_ _ | refine blk_drew ?_ | refine blk_alloc ?_ _)); exact BK297.out)) : gb297 ≠ gb301)); have n6_ := Aside0.mk ((by rw [hg]; exact Nat.ne_of_gt (blk_lt (g := gb297) (o := .cells #[.int .i64 a0_0, .int .i64 a0_1, .slice (some ad300) l0_2.length c0_2] 42 (0, 0)) (by (with_reducible repeat (first | refine blk_drewN ?_ _ | refine blk_drew ?_ | refine blk_alloc ?_ _)); exact BK297.out)) : gb301 ≠ gb297)); clear BK297; clear HB; have BK297 := n0_; have HB := n1_; have BK301 := n2_; have GW301 := n3_; have GE301 := n4_; have NB297_301 := n5_; have NB301_297 := n6_; clear n0_ n1_ n2_ n3_ n4_ n5_ n6_; clear hb hbox hg; have hnb70 := NB301_297.out; have hnc70 := NB297_301.out; have hcz71_0 : w69.cell? ⟨gb301, 0, none⟩ = some (.int .i64 0) := (blk_cell BK301.out 0).trans rfl; have hcz71_1 : w69.cell? ⟨gb301, 1, none⟩ = some (.int .i64 0) := (blk_cell BK301.out 1).trans rfl; have hcz71_2 : w69.cell? ⟨gb301, 2, none⟩ = some (.int .i64 0) := (blk_cell BK301.out 2).trans rfl; have hcz71_3 : w69.cell? ⟨gb301, 3, none⟩ = some (.int .i64 0) := (blk_cell BK301.out 3).trans rfl; have hcz71_4 : w69.cell? ⟨gb301, 4, none⟩ = some (.int .i64 0) := (blk_cell BK301.out 4).trans rfl; have hfz71_0 := blk_frozen BK301.out 0; have hfz71_1 := blk_frozen BK301.out 1; have hfz71_2 := blk_frozen BK301.out 2; have hfz71_3 := blk_frozen BK301.out 3; have hfz71_4 := blk_frozen BK301.out 4))
         have n0_ : Aside0 ((((((w69.setCell ⟨gb301, 0, none⟩ (.int .i64 ((rd_T65 l0_2 x3_2).f0))).setCell ⟨gb301, 1, none⟩ (.int .i64 ((rd_T65 l0_2 x3_2).f1))).setCell ⟨gb301, 2, none⟩ (.int .i64 ((rd_T65 l0_2 x3_2).f2))).setCell ⟨gb301, 3, none⟩ (.int .i64 ((rd_T65 l0_2 x3_2).f3))).setCell ⟨gb301, 4, none⟩ (.int .i64 ((rd_T65 l0_2 x3_2).f4))).heap[gb297]? = some (.cells #[.int .i64 a0_0, .int .i64 a0_1, .slice (some ad300) l0_2.length c0_2] 42 (0, 0))) := ⟨by (with_reducible repeat (first | refine blk_drewN ?_ _ | refine blk_drew ?_ | refine blk_alloc ?_ _)); refine blk_far ?_ NB297_301.out _; (with_reducible repeat (first | refine blk_drewN ?_ _ | refine blk_drew ?_ | refine blk_alloc ?_ _)); refine blk_far ?_ NB297_301.out _; (with_reducible repeat (first | refine blk_drewN ?_ _ | refine blk_drew ?_ | refine blk_alloc ?_ _)); refine blk_far ?_ NB297_301.out _; (with_reducible repeat (first | refine blk_drewN ?_ _ | refine blk_drew ?_ | refine blk_alloc ?_ _)); refine blk_far ?_ NB297_301.out _; (with_reducible repeat (first | refine blk_drewN ?_ _ | refine blk_drew ?_ | refine blk_alloc ?_ _)); refine blk_far ?_ NB297_301.out _; (with_reducible repeat (first | refine blk_drewN ?_ _ | refine blk_drew ?_ | refine blk_alloc ?_ _)); exact BK297.out⟩
         have n1_ : Aside0 ((((((w69.setCell ⟨gb301, 0, none⟩ (.int .i64 ((rd_T65 l0_2 x3_2).f0))).setCell ⟨gb301, 1, none⟩ (.int .i64 ((rd_T65 l0_2 x3_2).f1))).setCell ⟨gb301, 2, none⟩ (.int .i64 ((rd_T65 l0_2 x3_2).f2))).setCell ⟨gb301, 3, none⟩ (.int .i64 ((rd_T65 l0_2 x3_2).f3))).setCell ⟨gb301, 4, none⟩ (.int .i64 ((rd_T65 l0_2 x3_2).f4))).heap[gb301]? = some (.cells #[.int .i64 ((rd_T65 l0_2 x3_2).f0), .int .i64 ((rd_T65 l0_2 x3_2).f1), .int .i64 ((rd_T65 l0_2 x3_2).f2), .int .i64 ((rd_T65 l0_2 x3_2).f3), .int .i64 ((rd_T65 l0_2 x3_2).f4)] 65 (0, 0))) := ⟨by (with_reducible repeat (first | refine blk_drewN ?_ _ | refine blk_drew ?_ | refine blk_alloc ?_ _)); refine blk_put (cs := #[.int .i64 ((rd_T65 l0_2 x3_2).f0), .int .i64 ((rd_T65 l0_2 x3_2).f1), .int .i64 ((rd_T65 l0_2 x3_2).f2), .int .i64 ((rd_T65 l0_2 x3_2).f3), .int .i64 0]) ?_ 4 _ rfl; (with_reducible repeat (first | refine blk_drewN ?_ _ | refine blk_drew ?_ | refine blk_alloc ?_ _)); refine blk_put (cs := #[.int .i64 ((rd_T65 l0_2 x3_2).f0), .int .i64 ((rd_T65 l0_2 x3_2).f1), .int .i64 ((rd_T65 l0_2 x3_2).f2), .int .i64 0, .int .i64 0]) ?_ 3 _ rfl; (with_reducible repeat (first | refine blk_drewN ?_ _ | refine blk_drew ?_ | refine blk_alloc ?_ _)); refine blk_put (cs := #[.int .i64 ((rd_T65 l0_2 x3_2).f0), .int .i64 ((rd_T65 l0_2 x3_2).f1), .int .i64 0, .int .i64 0, .int .i64 0]) ?_ 2 _ rfl; (with_reducible repeat (first | refine blk_drewN ?_ _ | refine blk_drew ?_ | refine blk_alloc ?_ _)); refine blk_put (cs := #[.int .i64 ((rd_T65 l0_2 x3_2).f0), .int .i64 0, .int .i64 0, .int .i64 0, .int .i64 0]) ?_ 1 _ rfl; (with_reducible repeat (first | refine blk_drewN ?_ _ | refine blk_drew ?_ | refine blk_alloc ?_ _)); refine blk_put (cs := #[.int .i64 0, .int .i64 0, .int .i64 0, .int .i64 0, .int .i64 0]) ?_ 0 _ rfl; (with_reducible repeat (first | refine blk_drewN ?_ _ | refine blk_drew ?_ | refine blk_alloc ?_ _)); exact BK301.out⟩
         have n2_ : Aside0 (Below w.heap.size w (((((w69.setCell ⟨gb301, 0, none⟩ (.int .i64 ((rd_T65 l0_2 x3_2).f0))).setCell ⟨gb301, 1, none⟩ (.int .i64 ((rd_T65 l0_2 x3_2).f1))).setCell ⟨gb301, 2, none⟩ (.int .i64 ((rd_T65 l0_2 x3_2).f2))).setCell ⟨gb301, 3, none⟩ (.int .i64 ((rd_T65 l0_2 x3_2).f3))).setCell ⟨gb301, 4, none⟩ (.int .i64 ((rd_T65 l0_2 x3_2).f4)))) := ⟨by repeat (first | (with_reducible first | exact HB.out | apply below_alloc | apply pw_below_drewN | apply below_drew1 | refine below_set ?_ GE297.out | refine below_set ?_ GE301.out) | exact HB.out)⟩
         (try clear BK297)
         (try clear BK301)
         (try clear HB)
         generalize (((((w69.setCell ⟨gb301, 0, none⟩ (.int .i64 ((rd_T65 l0_2 x3_2).f0))).setCell ⟨gb301, 1, none⟩ (.int .i64 ((rd_T65 l0_2 x3_2).f1))).setCell ⟨gb301, 2, none⟩ (.int .i64 ((rd_T65 l0_2 x3_2).f2))).setCell ⟨gb301, 3, none⟩ (.int .i64 ((rd_T65 l0_2 x3_2).f3))).setCell ⟨gb301, 4, none⟩ (.int .i64 ((rd_T65 l0_2 x3_2).f4))) = w72 at n0_ n1_ n2_ ⊢
         have BK297 := n0_
         have BK301 := n1_
         have HB := n2_
         clear n0_ n1_ n2_
         have n0_ := Aside0.mk (blk_drew BK297.out)
         have n1_ := Aside0.mk (blk_drew BK301.out)
         have n2_ := Aside0.mk (below_drew1 HB.out)
         clear BK297
         clear BK301
         clear HB
         have BK297 := n0_
         have BK301 := n1_
         have HB := n2_
         clear n0_ n1_ n2_
         refine start_ (n := 53) (S := fun w' => w'.cell? ⟨gb301, 0, none⟩ = some (.int .i64 ((rd_T65 l0_2 x3_2).f0)) ∧ w'.cell? ⟨gb301, 1, none⟩ = some (.int .i64 ((rd_T65 l0_2 x3_2).f1)) ∧ w'.cell? ⟨gb301, 2, none⟩ = some (.int .i64 ((rd_T65 l0_2 x3_2).f2)) ∧ w'.cell? ⟨gb301, 3, none⟩ = some (.int .i64 ((rd_T65 l0_2 x3_2).f3)) ∧ w'.cell? ⟨gb301, 4, none⟩ = some (.int .i64 ((rd_T65 l0_2 x3_2).f4)) ∧ w'.cell? ⟨gb297, 0, none⟩ = some (.int .i64 a0_0) ∧ w'.cell? ⟨gb297, 1, none⟩ = some (.int .i64 a0_1) ∧ w'.cell? ⟨gb297, 2, none⟩ = some (.slice (some ad300) l0_2.length c0_2)) (ds := []) spec_GrdOk.mk0 (by kernel_rfl) rfl rfl ⟨(blk_cell BK301.out 0).trans rfl, (blk_cell BK301.out 1).trans rfl, (blk_cell BK301.out 2).trans rfl, (blk_cell BK301.out 3).trans rfl, (blk_cell BK301.out 4).trans rfl, (blk_cell BK297.out 0).trans rfl, (blk_cell BK297.out 1).trans rfl, (blk_cell BK297.out 2).trans rfl⟩ (fun hHeld => ?_); refine with_tabW spec_GrdOk.tab7 spec_GrdOk.bits7 (fun HT_ HW_ => ?_)
         generalize w72.drew = w73 at BK297 BK301 HB hHeld ⊢
         refine pure_ (i := 0) (N := some 33) (v := ?_) (a' := ?_) spec_GrdOk.mk1 rfl rfl (any_of HT_.out (by kernel_rfl)) (fun _ _ _ h => h) (Or.inl ⟨by rfl, ?_⟩) ?_ ?_
         rotate_left
         ·intro w'
          go_simp
          with_reducible rfl
         rotate_left
         ·simp only [Act.put, qa_, qb_, qc_, i64_w, i32_w]
          rfl
         refine pure_ (i := 2) (N := some 35) (v := ?_) (a' := ?_) spec_GrdOk.mk2 rfl rfl (any_of HT_.out (by kernel_rfl)) (fun _ _ _ h => h) (Or.inl ⟨by rfl, ?_⟩) ?_ ?_
         rotate_left
         ·intro w'
          go_simp
          with_reducible rfl
         rotate_left
         ·simp only [Act.put, qa_, qb_, qc_, i64_w, i32_w]
          rfl
         refine take_ (i := 1) (N := some 34) (v := ?_) (a' := ?_) spec_GrdOk.mk3 rfl rfl (take_ofW HT_.out HW_.out (by kernel_rfl)) (fun _ _ _ h => h) (Or.inl ⟨by rfl, ?_⟩) hHeld ?_ ?_
         rotate_left
         ·rintro w' ⟨s0, s1, s2, s3, s4, s5, s6, s7⟩
          go_simp
          with_reducible rfl
         rotate_left
         ·simp only [Act.put, qa_, qb_, qc_, i64_w, i32_w]
          rfl
         refine take_ (i := 3) (N := some 36) (v := ?_) (a' := ?_) spec_GrdOk.mk4 rfl rfl (take_ofW HT_.out HW_.out (by kernel_rfl)) (fun _ _ _ h => h) (Or.inl ⟨by rfl, ?_⟩) hHeld ?_ ?_
         rotate_left
         ·rintro w' ⟨s0, s1, s2, s3, s4, s5, s6, s7⟩
          go_simp
          with_reducible rfl
         rotate_left
         ·simp only [Act.put, qa_, qb_, qc_, i64_w, i32_w]
          rfl
         refine pure_ (i := 4) (N := some 37) (v := ?_) (a' := ?_) spec_GrdOk.mk5 rfl rfl (any_of HT_.out (by kernel_rfl)) (fun _ _ _ h => h) (Or.inl ⟨by rfl, ?_⟩) ?_ ?_
         rotate_left
         ·intro w'
          go_simp
          with_reducible rfl
         rotate_left
         ·simp only [Act.put, qa_, qb_, qc_, i64_w, i32_w]
          rfl
         refine one_ (i := 5) (N := some 38) spec_GrdOk.mk6 rfl rfl (one_of HT_.out (by kernel_rfl)) (by decide) (fun K hK => ?_)
         refine goes_ Try.func39 (by kernel_rfl) rfl #[.int .i64 ((rd_T65 l0_2 x3_2).f0), .int .i64 0, .int .i64 (wrap64 (a0_0 - 1))] (by rfl) rfl rfl (by (try simp only [List.map_toArray, List.map_cons, List.map_nil]); first | done | rfl | (simp only [List.length_drop, List.length_take]; rfl)) ?_
         with_reducible refine (spec_l1In.calls ((rd_T65 l0_2 x3_2).f0) 0 (wrap64 (a0_0 - 1)) false _ A14.out).mono ?_
         rintro e w' ⟨rfl, ⟨nd, rfl⟩⟩
         refine ⟨_, rfl, ?_⟩
         refine hK.out _ _ ⟨(blk_cell BK301.out 0).trans rfl, (blk_cell BK301.out 1).trans rfl, (blk_cell BK301.out 2).trans rfl, (blk_cell BK301.out 3).trans rfl, (blk_cell BK301.out 4).trans rfl, (blk_cell BK297.out 0).trans rfl, (blk_cell BK297.out 1).trans rfl, (blk_cell BK297.out 2).trans rfl⟩ (fun hHeld => ?_)
         clear hK K
         refine norm_ (a' := ?_) ?_ ?_
         rotate_left
         ·show Act.put _ (some 38) _ = _
          simp only [Act.put, qa_, qb_, qc_, i64_w, i32_w]
          rfl
         refine pure_ (i := 6) (N := some 39) (v := ?_) (a' := ?_) spec_GrdOk.mk7 rfl rfl (any_of HT_.out (by kernel_rfl)) (fun _ _ _ h => h) (Or.inl ⟨by rfl, ?_⟩) ?_ ?_
         rotate_left
         ·intro w'
          go_simp
          with_reducible rfl
         rotate_left
         ·simp only [Act.put, qa_, qb_, qc_, i64_w, i32_w]
          rfl
         refine pure_ (i := 7) (N := some 40) (v := ?_) (a' := ?_) spec_GrdOk.mk8 rfl rfl (any_of HT_.out (by kernel_rfl)) (fun _ _ _ h => h) (Or.inl ⟨by rfl, ?_⟩) ?_ ?_
         rotate_left
         ·intro w'
          go_simp
          with_reducible rfl
         rotate_left
         ·simp only [Act.put, qa_, qb_, qc_, i64_w, i32_w]
          rfl
         refine pure_ (i := 8) (N := some 41) (v := undef) (a' := ?_) spec_GrdOk.mk9 rfl rfl (any_of HT_.out (by kernel_rfl)) (fun _ _ _ h => h) (Or.inr ⟨by rfl, rfl⟩) ?_ ?_
         rotate_left
         ·simp only [Act.put, qa_, qb_, qc_, i64_w, i32_w]
          rfl
         refine pure_ (i := 9) (N := some 42) (v := undef) (a' := ?_) spec_GrdOk.mk61 rfl rfl (any_of HT_.out (by kernel_rfl)) (fun _ _ _ h => h) (Or.inr ⟨by rfl, rfl⟩) ?_ ?_
         rotate_left
         ·simp only [Act.put, qa_, qb_, qc_, i64_w, i32_w]
          rfl
         refine pure_ (i := 10) (N := some 43) (v := undef) (a' := ?_) spec_GrdOk.mk11 rfl rfl (any_of HT_.out (by kernel_rfl)) (fun _ _ _ h => h) (Or.inr ⟨by rfl, rfl⟩) ?_ ?_
         rotate_left
         ·simp only [Act.put, qa_, qb_, qc_, i64_w, i32_w]
          rfl
         refine pure_ (i := 11) (N := some 44) (v := undef) (a' := ?_) spec_GrdOk.mk12 rfl rfl (any_of HT_.out (by kernel_rfl)) (fun _ _ _ h => h) (Or.inr ⟨by rfl, rfl⟩) ?_ ?_
         rotate_left
         ·simp only [Act.put, qa_, qb_, qc_, i64_w, i32_w]
          rfl
         refine pure_ (i := 12) (N := some 45) (v := undef) (a' := ?_) spec_GrdOk.mk13 rfl rfl (any_of HT_.out (by kernel_rfl)) (fun _ _ _ h => h) (Or.inr ⟨by rfl, rfl⟩) ?_ ?_
         rotate_left
         ·simp only [Act.put, qa_, qb_, qc_, i64_w, i32_w]
          rfl
         refine pure_ (i := 13) (N := some 46) (v := undef) (a' := ?_) spec_GrdOk.mk14 rfl rfl (any_of HT_.out (by kernel_rfl)) (fun _ _ _ h => h) (Or.inr ⟨by rfl, rfl⟩) ?_ ?_
         rotate_left
         ·simp only [Act.put, qa_, qb_, qc_, i64_w, i32_w]
          rfl
         refine pure_ (i := 14) (N := some 47) (v := undef) (a' := ?_) spec_GrdOk.mk15 rfl rfl (any_of HT_.out (by kernel_rfl)) (fun _ _ _ h => h) (Or.inr ⟨by rfl, rfl⟩) ?_ ?_
         rotate_left
         ·simp only [Act.put, qa_, qb_, qc_, i64_w, i32_w]
          rfl
         refine pure_ (i := 15) (N := some 48) (v := ?_) (a' := ?_) spec_GrdOk.mk16 rfl rfl (any_of HT_.out (by kernel_rfl)) (fun _ _ _ h => h) (Or.inl ⟨by rfl, ?_⟩) ?_ ?_
         rotate_left
         ·intro w'
          go_simp
          with_reducible rfl
         rotate_left
         ·simp only [Act.put, qa_, qb_, qc_, i64_w, i32_w]
          rfl
         refine pure_ (i := 16) (N := some 49) (v := ?_) (a' := ?_) spec_GrdOk.mk17 rfl rfl (any_of HT_.out (by kernel_rfl)) (fun _ _ _ h => h) (Or.inl ⟨by rfl, ?_⟩) ?_ ?_
         rotate_left
         ·intro w'
          go_simp
          with_reducible rfl
         rotate_left
         ·simp only [Act.put, qa_, qb_, qc_, i64_w, i32_w]
          rfl
         refine pure_ (i := 17) (N := some 50) (v := undef) (a' := ?_) spec_GrdOk.mk18 rfl rfl (any_of HT_.out (by kernel_rfl)) (fun _ _ _ h => h) (Or.inr ⟨by rfl, rfl⟩) ?_ ?_
         rotate_left
         ·simp only [Act.put, qa_, qb_, qc_, i64_w, i32_w]
          rfl
         refine pure_ (i := 18) (N := some 51) (v := undef) (a' := ?_) spec_GrdOk.mk58 rfl rfl (any_of HT_.out (by kernel_rfl)) (fun _ _ _ h => h) (Or.inr ⟨by rfl, rfl⟩) ?_ ?_
         rotate_left
         ·simp only [Act.put, qa_, qb_, qc_, i64_w, i32_w]
          rfl
         refine pure_ (i := 19) (N := some 52) (v := undef) (a' := ?_) spec_GrdOk.mk59 rfl rfl (any_of HT_.out (by kernel_rfl)) (fun _ _ _ h => h) (Or.inr ⟨by rfl, rfl⟩) ?_ ?_
         rotate_left
         ·simp only [Act.put, qa_, qb_, qc_, i64_w, i32_w]
          rfl
         refine pure_ (i := 20) (N := some 53) (v := undef) (a' := ?_) spec_GrdOk.mk60 rfl rfl (any_of HT_.out (by kernel_rfl)) (fun _ _ _ h => h) (Or.inr ⟨by rfl, rfl⟩) ?_ ?_
         rotate_left
         ·simp only [Act.put, qa_, qb_, qc_, i64_w, i32_w]
          rfl
         refine pure_ (i := 21) (N := some 54) (v := undef) (a' := ?_) spec_GrdOk.mk22 rfl rfl (any_of HT_.out (by kernel_rfl)) (fun _ _ _ h => h) (Or.inr ⟨by rfl, rfl⟩) ?_ ?_
         rotate_left
         ·simp only [Act.put, qa_, qb_, qc_, i64_w, i32_w]
          rfl
         refine pure_ (i := 22) (N := some 55) (v := undef) (a' := ?_) spec_GrdOk.mk23 rfl rfl (any_of HT_.out (by kernel_rfl)) (fun _ _ _ h => h) (Or.inr ⟨by rfl, rfl⟩) ?_ ?_
         rotate_left
         ·simp only [Act.put, qa_, qb_, qc_, i64_w, i32_w]
          rfl
         refine pure_ (i := 23) (N := some 56) (v := undef) (a' := ?_) spec_GrdOk.mk24 rfl rfl (any_of HT_.out (by kernel_rfl)) (fun _ _ _ h => h) (Or.inr ⟨by rfl, rfl⟩) ?_ ?_
         rotate_left
         ·simp only [Act.put, qa_, qb_, qc_, i64_w, i32_w]
          rfl
         refine pure_ (i := 24) (N := some 57) (v := undef) (a' := ?_) spec_GrdOk.mk25 rfl rfl (any_of HT_.out (by kernel_rfl)) (fun _ _ _ h => h) (Or.inr ⟨by rfl, rfl⟩) ?_ ?_
         rotate_left
         ·simp only [Act.put, qa_, qb_, qc_, i64_w, i32_w]
          rfl
         refine pure_ (i := 25) (N := some 58) (v := undef) (a' := ?_) spec_GrdOk.mk26 rfl rfl (any_of HT_.out (by kernel_rfl)) (fun _ _ _ h => h) (Or.inr ⟨by rfl, rfl⟩) ?_ ?_
         rotate_left
         ·simp only [Act.put, qa_, qb_, qc_, i64_w, i32_w]
          rfl
         refine pure_ (i := 26) (N := some 59) (v := ?_) (a' := ?_) spec_GrdOk.mk27 rfl rfl (any_of HT_.out (by kernel_rfl)) (fun _ _ _ h => h) (Or.inl ⟨by rfl, ?_⟩) ?_ ?_
         rotate_left
         ·intro w'
          go_simp
          with_reducible rfl
         rotate_left
         ·simp only [Act.put, qa_, qb_, qc_, i64_w, i32_w]
          rfl
         refine pure_ (i := 27) (N := some 60) (v := ?_) (a' := ?_) spec_GrdOk.mk28 rfl rfl (any_of HT_.out (by kernel_rfl)) (fun _ _ _ h => h) (Or.inl ⟨by rfl, ?_⟩) ?_ ?_
         rotate_left
         ·intro w'
          go_simp
          with_reducible rfl
         rotate_left
         ·simp only [Act.put, qa_, qb_, qc_, i64_w, i32_w]
          rfl
         refine pure_ (i := 28) (N := some 61) (v := undef) (a' := ?_) spec_GrdOk.mk29 rfl rfl (any_of HT_.out (by kernel_rfl)) (fun _ _ _ h => h) (Or.inr ⟨by rfl, rfl⟩) ?_ ?_
         rotate_left
         ·simp only [Act.put, qa_, qb_, qc_, i64_w, i32_w]
          rfl
         refine pure_ (i := 29) (N := some 62) (v := undef) (a' := ?_) spec_GrdOk.mk55 rfl rfl (any_of HT_.out (by kernel_rfl)) (fun _ _ _ h => h) (Or.inr ⟨by rfl, rfl⟩) ?_ ?_
         rotate_left
         ·simp only [Act.put, qa_, qb_, qc_, i64_w, i32_w]
          rfl
         refine pure_ (i := 30) (N := some 63) (v := undef) (a' := ?_) spec_GrdOk.mk56 rfl rfl (any_of HT_.out (by kernel_rfl)) (fun _ _ _ h => h) (Or.inr ⟨by rfl, rfl⟩) ?_ ?_
         rotate_left
         ·simp only [Act.put, qa_, qb_, qc_, i64_w, i32_w]
          rfl
         refine pure_ (i := 31) (N := some 64) (v := undef) (a' := ?_) spec_GrdOk.mk57 rfl rfl (any_of HT_.out (by kernel_rfl)) (fun _ _ _ h => h) (Or.inr ⟨by rfl, rfl⟩) ?_ ?_
         rotate_left
         ·simp only [Act.put, qa_, qb_, qc_, i64_w, i32_w]
          rfl
         refine pure_ (i := 32) (N := some 65) (v := undef) (a' := ?_) spec_GrdOk.mk33 rfl rfl (any_of HT_.out (by kernel_rfl)) (fun _ _ _ h => h) (Or.inr ⟨by rfl, rfl⟩) ?_ ?_
         rotate_left
         ·simp only [Act.put, qa_, qb_, qc_, i64_w, i32_w]
          rfl
         refine pure_ (i := 33) (N := some 66) (v := undef) (a' := ?_) spec_GrdOk.mk34 rfl rfl (any_of HT_.out (by kernel_rfl)) (fun _ _ _ h => h) (Or.inr ⟨by rfl, rfl⟩) ?_ ?_
         rotate_left
         ·simp only [Act.put, qa_, qb_, qc_, i64_w, i32_w]
          rfl
         refine pure_ (i := 34) (N := some 67) (v := undef) (a' := ?_) spec_GrdOk.mk35 rfl rfl (any_of HT_.out (by kernel_rfl)) (fun _ _ _ h => h) (Or.inr ⟨by rfl, rfl⟩) ?_ ?_
         rotate_left
         ·simp only [Act.put, qa_, qb_, qc_, i64_w, i32_w]
          rfl
         refine pure_ (i := 35) (N := some 68) (v := undef) (a' := ?_) spec_GrdOk.mk36 rfl rfl (any_of HT_.out (by kernel_rfl)) (fun _ _ _ h => h) (Or.inr ⟨by rfl, rfl⟩) ?_ ?_
         rotate_left
         ·simp only [Act.put, qa_, qb_, qc_, i64_w, i32_w]
          rfl
         refine pure_ (i := 36) (N := some 69) (v := undef) (a' := ?_) spec_GrdOk.mk37 rfl rfl (any_of HT_.out (by kernel_rfl)) (fun _ _ _ h => h) (Or.inr ⟨by rfl, rfl⟩) ?_ ?_
         rotate_left
         ·simp only [Act.put, qa_, qb_, qc_, i64_w, i32_w]
          rfl
         refine pure_ (i := 37) (N := some 70) (v := ?_) (a' := ?_) spec_GrdOk.mk38 rfl rfl (any_of HT_.out (by kernel_rfl)) (fun _ _ _ h => h) (Or.inl ⟨by rfl, ?_⟩) ?_ ?_
         rotate_left
         ·intro w'
          go_simp
          with_reducible rfl
         rotate_left
         ·simp only [Act.put, qa_, qb_, qc_, i64_w, i32_w]
          rfl
         refine pure_ (i := 38) (N := some 71) (v := ?_) (a' := ?_) spec_GrdOk.mk39 rfl rfl (any_of HT_.out (by kernel_rfl)) (fun _ _ _ h => h) (Or.inl ⟨by rfl, ?_⟩) ?_ ?_
         rotate_left
         ·intro w'
          go_simp
          with_reducible rfl
         rotate_left
         ·simp only [Act.put, qa_, qb_, qc_, i64_w, i32_w]
          rfl
         refine pure_ (i := 39) (N := some 72) (v := undef) (a' := ?_) spec_GrdOk.mk40 rfl rfl (any_of HT_.out (by kernel_rfl)) (fun _ _ _ h => h) (Or.inr ⟨by rfl, rfl⟩) ?_ ?_
         rotate_left
         ·simp only [Act.put, qa_, qb_, qc_, i64_w, i32_w]
          rfl
         refine pure_ (i := 40) (N := some 73) (v := undef) (a' := ?_) spec_GrdOk.mk41 rfl rfl (any_of HT_.out (by kernel_rfl)) (fun _ _ _ h => h) (Or.inr ⟨by rfl, rfl⟩) ?_ ?_
         rotate_left
         ·simp only [Act.put, qa_, qb_, qc_, i64_w, i32_w]
          rfl
         refine pure_ (i := 41) (N := some 74) (v := undef) (a' := ?_) spec_GrdOk.mk42 rfl rfl (any_of HT_.out (by kernel_rfl)) (fun _ _ _ h => h) (Or.inr ⟨by rfl, rfl⟩) ?_ ?_
         rotate_left
         ·simp only [Act.put, qa_, qb_, qc_, i64_w, i32_w]
          rfl
         refine pure_ (i := 42) (N := some 75) (v := undef) (a' := ?_) spec_GrdOk.mk43 rfl rfl (any_of HT_.out (by kernel_rfl)) (fun _ _ _ h => h) (Or.inr ⟨by rfl, rfl⟩) ?_ ?_
         rotate_left
         ·simp only [Act.put, qa_, qb_, qc_, i64_w, i32_w]
          rfl
         refine pure_ (i := 43) (N := some 76) (v := ?_) (a' := ?_) spec_GrdOk.mk44 rfl rfl (any_of HT_.out (by kernel_rfl)) (fun _ _ _ h => h) (Or.inl ⟨by rfl, ?_⟩) ?_ ?_
         rotate_left
         ·intro w'
          go_simp
          with_reducible rfl
         rotate_left
         ·simp only [Act.put, qa_, qb_, qc_, i64_w, i32_w]
          rfl
         refine pure_ (i := 44) (N := some 77) (v := ?_) (a' := ?_) spec_GrdOk.mk45 rfl rfl (any_of HT_.out (by kernel_rfl)) (fun _ _ _ h => h) (Or.inl ⟨by rfl, ?_⟩) ?_ ?_
         rotate_left
         ·intro w'
          go_simp
          with_reducible rfl
         rotate_left
         ·simp only [Act.put, qa_, qb_, qc_, i64_w, i32_w]
          rfl
         refine pure_ (i := 45) (N := some 78) (v := undef) (a' := ?_) spec_GrdOk.mk46 rfl rfl (any_of HT_.out (by kernel_rfl)) (fun _ _ _ h => h) (Or.inr ⟨by rfl, rfl⟩) ?_ ?_
         rotate_left
         ·simp only [Act.put, qa_, qb_, qc_, i64_w, i32_w]
          rfl
         refine pure_ (i := 46) (N := some 79) (v := undef) (a' := ?_) spec_GrdOk.mk54 rfl rfl (any_of HT_.out (by kernel_rfl)) (fun _ _ _ h => h) (Or.inr ⟨by rfl, rfl⟩) ?_ ?_
         rotate_left
         ·simp only [Act.put, qa_, qb_, qc_, i64_w, i32_w]
          rfl
         refine pure_ (i := 47) (N := some 80) (v := undef) (a' := ?_) spec_GrdOk.mk48 rfl rfl (any_of HT_.out (by kernel_rfl)) (fun _ _ _ h => h) (Or.inr ⟨by rfl, rfl⟩) ?_ ?_
         rotate_left
         ·simp only [Act.put, qa_, qb_, qc_, i64_w, i32_w]
          rfl
         refine pure_ (i := 48) (N := some 81) (v := undef) (a' := ?_) spec_GrdOk.mk49 rfl rfl (any_of HT_.out (by kernel_rfl)) (fun _ _ _ h => h) (Or.inr ⟨by rfl, rfl⟩) ?_ ?_
         rotate_left
         ·simp only [Act.put, qa_, qb_, qc_, i64_w, i32_w]
          rfl
         refine pure_ (i := 49) (N := some 82) (v := undef) (a' := ?_) spec_GrdOk.mk50 rfl rfl (any_of HT_.out (by kernel_rfl)) (fun _ _ _ h => h) (Or.inr ⟨by rfl, rfl⟩) ?_ ?_
         rotate_left
         ·simp only [Act.put, qa_, qb_, qc_, i64_w, i32_w]
          rfl
         refine pure_ (i := 50) (N := some 83) (v := undef) (a' := ?_) spec_GrdOk.mk51 rfl rfl (any_of HT_.out (by kernel_rfl)) (fun _ _ _ h => h) (Or.inr ⟨by rfl, rfl⟩) ?_ ?_
         rotate_left
         ·simp only [Act.put, qa_, qb_, qc_, i64_w, i32_w]
          rfl
         refine pure_ (i := 51) (N := some 84) (v := undef) (a' := ?_) spec_GrdOk.mk52 rfl rfl (any_of HT_.out (by kernel_rfl)) (fun _ _ _ h => h) (Or.inr ⟨by rfl, rfl⟩) ?_ ?_
         rotate_left
         ·simp only [Act.put, qa_, qb_, qc_, i64_w, i32_w]
          rfl
         refine pure_ (i := 52) (N := some 85) (v := ?_) (a' := ?_) spec_GrdOk.mk53 rfl rfl (any_of HT_.out (by kernel_rfl)) (fun _ _ _ h => h) (Or.inl ⟨by rfl, ?_⟩) ?_ ?_
         rotate_left
         ·intro w'
          go_simp
          with_reducible rfl
         rotate_left
         ·simp only [Act.put, qa_, qb_, qc_, i64_w, i32_w]
          rfl
         refine done_ (done_of HT_.out (by kernel_rfl)) ?_
         try go_wp2
         go_ret
         exact ⟨by first | rfl | (simp [errW_none, errW_some] <;> rfl) | (simp [*, errW_none, errW_some] <;> rfl), by repeat (first | (with_reducible first | exact HB.out | apply below_alloc | apply pw_below_drewN | apply below_drew1 | refine below_set ?_ GE297.out | refine below_set ?_ GE301.out) | exact HB.out)⟩
       ·rw [if_neg c13] at H
        exact absurd H (by simp)
      ·rw [if_neg c12] at H
       have c12b0 : decide (x3_2 < (l0_2.length : Int)) = false := decide_eq_false c12
       clear c12
       obtain rfl := Option.some.inj H
       have hcz74_0 : wr.cell? ⟨gb297, 0, none⟩ = some (.int .i64 a0_0) := (blk_cell BK297.out 0).trans rfl
       have hcz74_1 : wr.cell? ⟨gb297, 1, none⟩ = some (.int .i64 a0_1) := (blk_cell BK297.out 1).trans rfl
       have hcz74_2 : wr.cell? ⟨gb297, 2, none⟩ = some (.slice A0_2 l0_2.length c0_2) := (blk_cell BK297.out 2).trans rfl
       have hfz74_0 := blk_frozen BK297.out 0
       have hfz74_1 := blk_frozen BK297.out 1
       have hfz74_2 := blk_frozen BK297.out 2
       go_wp2
       go_ret
       exact ⟨by first | rfl | (simp [errW_none, errW_some] <;> rfl) | (simp [*, errW_none, errW_some] <;> rfl), by repeat (first | (with_reducible first | exact HB.out | apply below_alloc | apply pw_below_drewN | apply below_drew1 | refine below_set ?_ GE297.out) | exact HB.out)⟩
end Go.Proofs.Ytemcdfkmpikegaa.Pr
