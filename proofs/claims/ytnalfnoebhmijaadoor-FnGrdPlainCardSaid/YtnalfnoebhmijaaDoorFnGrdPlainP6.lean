/- A part of what the claim of 'FnGrdPlain' leans on. -/
import Derived.Test.YtnalfnoebhmijaaDoorFnGrdPlainP0
import Derived.Test.YtnalfnoebhmijaaDoorFnGrdPlainP2
import Derived.Test.YtnalfnoebhmijaaDoorFnGrdPlainP4
namespace Go.Proofs.YtnalfnoebhmijaaDoor.Pr
open Go.RowKit Go.Proofs.YtnalfnoebhmijaaDoorW.PrintWords Go.Proofs.YtnalfnoebhmijaaDoorW.PrintLast Go.Proofs.YtnalfnoebhmijaaDoorW.PrintMore
attribute [local go_sem] max2_int min2_int max_two min_two max_three min_three max_four min_four
set_option linter.unusedVariables false
set_option linter.unusedSimpArgs false
mutual
def impl_GrdOk.j0 : Nat → Bool → Int → Int → List (S37) → Option (Bool)
  | 0, _, _, _, _ => none
  | k + 1, x20, x486000, x486001, x486002 => if x20 = true then (some false) else (impl_GrdOk.l0 k x486002 (x486002.length : Int) 0 x486000 x486001 x486002)
def impl_GrdOk.l0 : Nat → List (S37) → Int → Int → Int → Int → List (S37) → Option (Bool)
  | 0, _, _, _, _, _, _ => none
  | k + 1, x22, x23, x24, x486000, x486001, x486002 => if x24 < x23 then (if 0 ≤ x24 then (if x24 < (x22.length : Int) then ((impl_in.f ((rd_T37 x22 x24).f0) 0 (wrap64 (x486000 - 1))).bind fun t490 => (if t490 = true then ((impl_in.f ((rd_T37 x22 x24).f2) 1 (wrap64 (x486000 - ((rd_T37 x22 x24).f0)))).bind fun t491 => (if t491 = true then ((impl_in.f ((rd_T37 x22 x24).f1) 0 (wrap64 (x486001 - 1))).bind fun t492 => (if t492 = true then ((impl_in.f ((rd_T37 x22 x24).f3) 1 (wrap64 (x486001 - ((rd_T37 x22 x24).f1)))).bind fun t493 => (impl_GrdOk.j2 k x24 x22 x23 x24 (!t493) x486000 x486001 x486002 ((rd_T37 x22 x24).f0) ((rd_T37 x22 x24).f1) ((rd_T37 x22 x24).f2) ((rd_T37 x22 x24).f3) ((rd_T37 x22 x24).f4))) else (impl_GrdOk.j2 k x24 x22 x23 x24 true x486000 x486001 x486002 ((rd_T37 x22 x24).f0) ((rd_T37 x22 x24).f1) ((rd_T37 x22 x24).f2) ((rd_T37 x22 x24).f3) ((rd_T37 x22 x24).f4)))) else (impl_GrdOk.j2 k x24 x22 x23 x24 true x486000 x486001 x486002 ((rd_T37 x22 x24).f0) ((rd_T37 x22 x24).f1) ((rd_T37 x22 x24).f2) ((rd_T37 x22 x24).f3) ((rd_T37 x22 x24).f4)))) else (impl_GrdOk.j2 k x24 x22 x23 x24 true x486000 x486001 x486002 ((rd_T37 x22 x24).f0) ((rd_T37 x22 x24).f1) ((rd_T37 x22 x24).f2) ((rd_T37 x22 x24).f3) ((rd_T37 x22 x24).f4)))) else (none)) else (none)) else (some true)
def impl_GrdOk.j2 : Nat → Int → List (S37) → Int → Int → Bool → Int → Int → List (S37) → Int → Int → Int → Int → Int → Option (Bool)
  | 0, _, _, _, _, _, _, _, _, _, _, _, _, _ => none
  | k + 1, x3, x22, x23, x24, x66, x486000, x486001, x486002, x490000, x490001, x490002, x490003, x490004 => if x66 = true then (some false) else ((impl_in.f x490004 0 4).bind fun t494 => (if t494 = true then (if 0 ≤ x3 then (if x3 ≤ (x486002.length : Int) then ((impl_GrdCell_39.f (x486002.take (x3 : Int).toNat) x490000 x490001 x490002 x490003 x490004).bind fun t499 => (if t499 = true then (some false) else (impl_GrdOk.l0 k x22 x23 (wrap64 (x24 + 1)) x486000 x486001 x486002))) else (none)) else (none)) else (some false)))
end
def impl_GrdOk.f (k : Nat) (a0_0 : Int) (a0_1 : Int) (l0_2 : List (S37)) : Option (Bool) := (impl_in.f a0_0 1 8).bind fun t486 => (if t486 = true then ((impl_in.f a0_1 1 94).bind fun t487 => (if t487 = true then (impl_GrdOk.j0 k (decide ((l0_2.length : Int) > 40)) a0_0 a0_1 l0_2) else (impl_GrdOk.j0 k true a0_0 a0_1 l0_2))) else (impl_GrdOk.j0 k true a0_0 a0_1 l0_2))
def impl_GrdOk.T8 : Bool × List (List Nat × List Nat) := (true, [([], []), ([0], [0]), ([1], [1]), ([2], [2]), ([3, 2], [3]), ([4], [4]), ([5, 4], [4, 5]), ([4], [4]), ([6, 7, 4], [4, 6, 7]), ([4], [4]), ([9, 4], [4, 9]), ([8, 10, 4, 4], [4, 8, 10]), ([4, 11], [4, 11])])
def impl_GrdOk.B8 : List Nat := [0, 1, 3, 7, 15, 31, 63, 31, 255, 31, 543, 2047, 4095]
theorem impl_GrdOk.tab8 : rtab .any (opsOf Tryd.f42 8) = impl_GrdOk.T8 := by kernel_rfl
theorem impl_GrdOk.bits8 : waitsOk impl_GrdOk.T8.2 impl_GrdOk.B8 = true := by kernel_rfl
abbrev m42_0 := bm_ 13 0
abbrev m42_1 := bm_ 13 1
abbrev m42_2 := bm_ 13 3
abbrev m42_3 := bm_ 13 7
abbrev m42_4 := bm_ 13 15
abbrev m42_5 := bm_ 13 31
abbrev m42_6 := bm_ 13 63
abbrev m42_7 := bm_ 13 191
abbrev m42_8 := bm_ 13 255
abbrev m42_9 := bm_ 13 511
abbrev m42_10 := bm_ 13 1023
abbrev m42_11 := bm_ 13 2047
abbrev m42_12 := bm_ 13 4095
abbrev m42_13 := bm_ 13 8191
abbrev m42_14 := bm_ 13 127
abbrev qa42 := @Aside0.mk
abbrev qc42 := @blk_cell
set_option maxHeartbeats 8000000 in
set_option maxRecDepth 100000 in
theorem impl_GrdOk.calls (k : Nat) (a0_0 : Int) (a0_1 : Int) (A0_2 : Option Addr) (c0_2 : Nat) (l0_2 : List (S37)) (r : Bool) (w : World) (hr0_2 : Kd.C k37 w A0_2 l0_2.length l0_2) (hc0_2 : l0_2.length ≤ c0_2) (h : impl_GrdOk.f k a0_0 a0_1 l0_2 = some r) :
  Calls Tryd.prog 42 #[.agg #[.int .i64 a0_0, .int .i64 a0_1, .slice A0_2 l0_2.length c0_2]] w fun e w' => e = .returned (.bool r) ∧ Below w.heap.size w w' := by
 have hu33 := Tryd.underlying33;have hu37 := Tryd.underlying37;have a3 := qa42 hr0_2;have bb := qa42 hc0_2;clear hr0_2 hc0_2;have HB := qa42 (Below.refl w.heap.size w);have H := h;unfold impl_GrdOk.f at H;clear h;have HC2 := qa42 H;clear H;go_enter Tryd.func42, Tryd.ntmps42;go_upto_region 1 with (first | ((with_reducible refine gate_dst (N := 1) rfl ?_); (try (refine gate_guard (by rfl) ?_; dsimp only)); refine bx_ 1 #[.int .i64 a0_0, .int .i64 a0_1, .slice A0_2 l0_2.length c0_2] 33 ?_; intro ag hg w3 hbox hb; have n0_ := qa42 (below_step (bl_ HB.out) hb); have n1_ := qa42 (hbox); have n2_ := qa42 ((sz_ (below_size (bl_ HB.out)) hg : w.heap.size ≤ ag)); have n3_ := qa42 n2_.out; replace HB := n0_; have ac := n1_; have GW485 := n2_; have af := n3_; clear n0_ n1_ n2_ n3_; clear hb hbox hg));(try simp only [Act.put, qa_, qb_, qc_]);go_cut [20] (fun v20 wc => ∃ (kq : Nat) (aB : Bool), v20 = .bool aB ∧ Aside0 (impl_GrdOk.j0 kq aB a0_0 a0_1 l0_2 = some r) ∧ Aside0 (kq ≤ k) ∧ Aside0 (wc.heap[ag]? = some (.cells #[.int .i64 a0_0, .int .i64 a0_1, (.slice A0_2 l0_2.length c0_2)] 33 (0, 0))) ∧ Aside0 (Below w.heap.size w wc))
 case first =>
  have H := HC2.out;clear HC2;obtain ⟨t486, A4, H⟩ := ob_ H;(try dsimp only at H);by_cases c5 : t486 = true
  (·subst c5;(have H1 : ((impl_in.f a0_1 1 94).bind fun t487 => (if t487 = true then (impl_GrdOk.j0 k (decide ((l0_2.length : Int) > 40)) a0_0 a0_1 l0_2) else (impl_GrdOk.j0 k true a0_0 a0_1 l0_2))) = some r := by rw [if_pos rfl] at H; exact H);clear H;have H := H1;clear H1;obtain ⟨t487, A6, H⟩ := ob_ H;(try dsimp only at H);by_cases c7 : t487 = true;(·subst c7;(have H1 : (impl_GrdOk.j0 k (decide ((l0_2.length : Int) > 40)) a0_0 a0_1 l0_2) = some r := by rw [if_pos rfl] at H; exact H);clear H;have H := H1;clear H1;have H' := qa42 H;clear H;have aK := c3_ ac.out;(go_wp2_with (first | ((with_reducible refine gate_callee (f := 28) rfl ?_); refine gl_ (some 7) Tryd.func28 #[.int .i64 a0_0, .int .i64 1, .int .i64 8] ?_; (with_reducible refine (impl_in.calls a0_0 1 8 true _ A4.out).mono ?_); rintro e w' ⟨rfl, ⟨nd, rfl⟩⟩; refine ⟨_, rfl, ?_⟩) | (go_at_call 28; (with_reducible refine (impl_in.calls a0_1 1 94 true _ A6.out).mono ?_); rintro e w' ⟨rfl, ⟨nd, rfl⟩⟩)));go_meet;(case rel => exact ⟨_, (decide ((l0_2.length : Int) > 40)), rf_, H', ⟨by first | omega | exact Nat.le_refl _⟩, ⟨kb_ ac.out⟩, ⟨bl_ HB.out⟩⟩));replace c7 := Bool.eq_false_iff.mpr c7;subst c7;(have H1 : (impl_GrdOk.j0 k true a0_0 a0_1 l0_2) = some r := by rw [if_neg (show ¬ (false = true) by decide)] at H; exact H);clear H;have H := H1;clear H1;have H' := qa42 H;clear H;have aJ := c3_ ac.out;(go_wp2_with (first | ((with_reducible refine gate_callee (f := 28) rfl ?_); refine gl_ (some 7) Tryd.func28 #[.int .i64 a0_0, .int .i64 1, .int .i64 8] ?_; (with_reducible refine (impl_in.calls a0_0 1 8 true _ A4.out).mono ?_); rintro e w' ⟨rfl, ⟨nd, rfl⟩⟩; refine ⟨_, rfl, ?_⟩) | (go_at_call 28; (with_reducible refine (impl_in.calls a0_1 1 94 false _ A6.out).mono ?_); rintro e w' ⟨rfl, ⟨nd, rfl⟩⟩)));go_meet;(case rel => exact ⟨_, (true), rf_, H', ⟨by first | omega | exact Nat.le_refl _⟩, ⟨kb_ ac.out⟩, ⟨bl_ HB.out⟩⟩))
  replace c5 := Bool.eq_false_iff.mpr c5;subst c5;(have H1 : (impl_GrdOk.j0 k true a0_0 a0_1 l0_2) = some r := by rw [if_neg (show ¬ (false = true) by decide)] at H; exact H);clear H;have H := H1;clear H1;have H' := qa42 H;clear H;have av := c3_ ac.out;(go_wp2_with (first | ((with_reducible refine gate_callee (f := 28) rfl ?_); refine gl_ (some 7) Tryd.func28 #[.int .i64 a0_0, .int .i64 1, .int .i64 8] ?_; (with_reducible refine (impl_in.calls a0_0 1 8 false _ A4.out).mono ?_); rintro e w' ⟨rfl, ⟨nd, rfl⟩⟩; refine ⟨_, rfl, ?_⟩)));go_meet;(case rel => exact ⟨_, (true), rf_, H', ⟨by first | omega | exact Nat.le_refl _⟩, ⟨kb_ ac.out⟩, ⟨bl_ HB.out⟩⟩)
 case rest =>
  clear HC2;(try clear c2);(try clear p2);(try clear c4);(try clear c5);(try clear c7);(try clear av);(try clear aK);(try clear aJ);obtain ⟨kq, aB, rfl, HA, HJ1, ac, HB⟩ := hcut
  cases kq with
   | zero => exact absurd HA.out (by simp [impl_GrdOk.j0])
   | succ kj1 =>
    have H := HA.out;clear HA;simp only [impl_GrdOk.j0] at H;by_cases c11 : aB = true;(·subst c11;(have H1 : (some false) = some r := by rw [if_pos rfl] at H; exact H);clear H;have H := H1;clear H1;obtain rfl := Option.some.inj H;go_wp2;go_ret;exact ⟨rg_, bl_ HB.out⟩)
    replace c11 := Bool.eq_false_iff.mpr c11;subst c11;(have H1 : (impl_GrdOk.l0 kj1 l0_2 (l0_2.length : Int) 0 a0_0 a0_1 l0_2) = some r := by rw [if_neg (show ¬ (false = true) by decide)] at H; exact H);clear H;have H := H1;clear H1;have H' := qa42 H;clear H;have aV := c3_ ac.out;go_wp2;go_loopg [24] kj1 (fun kq v24 w' => ∃ (aa : Int), v24 = .int .i64 aa ∧ Aside0 (impl_GrdOk.l0 kq l0_2 (l0_2.length : Int) aa a0_0 a0_1 l0_2 = some r) ∧ Aside0 (kq ≤ kj1) ∧ Aside0 (w'.heap[ag]? = some (.cells #[.int .i64 a0_0, .int .i64 a0_1, (.slice A0_2 l0_2.length c0_2)] 33 (0, 0))) ∧ Aside0 (Below w.heap.size w w'));(case atStart => exact ⟨(0), rf_, H', ⟨Nat.le_refl _⟩, ⟨kb_ ac.out⟩, ⟨bl_ HB.out⟩⟩)
    case round =>
     clear H';(try clear c1);(try clear c2);(try clear p2);(try clear c4);(try clear c5);(try clear c7);(try clear c11);(try clear av);(try clear aV);(try clear aK);(try clear aJ);(try clear p2);obtain ⟨aa, rfl, HA, HK2, ac, HB⟩ := hrel
     cases gk with
      | zero => exact absurd HA.out (by simp [impl_GrdOk.l0])
      | succ k2 =>
       have H := HA.out;clear HA;simp only [impl_GrdOk.l0] at H;by_cases c13 : aa < (l0_2.length : Int)
       ·rw [if_pos c13] at H;have a9 : decide (aa < (l0_2.length : Int)) = true := decide_eq_true c13;clear c13;by_cases c14 : 0 ≤ aa
        ·rw [if_pos c14] at H;have cD : decide (0 ≤ aa) = true := decide_eq_true c14;clear c14;by_cases c15 : aa < (l0_2.length : Int)
         ·rw [if_pos c15] at H;have cC : decide (aa < (l0_2.length : Int)) = true := decide_eq_true c15;clear c15;have a7 := qa42 H;clear H;have aZ : 0 ≤ (aa : Int) := dq_;have aW : aa < (l0_2.length : Int) := dq_;obtain ⟨ai, cG, am, ap, al, an, ao⟩ := at_T37 a3.out aa aZ aW;cases cG;replace am := (HB.out.cell (World.block_lt_of_cell? w _ am)).trans am;replace ap := (HB.out.cell (World.block_lt_of_cell? w _ ap)).trans ap;replace al := (HB.out.cell (World.block_lt_of_cell? w _ al)).trans al;replace an := (HB.out.cell (World.block_lt_of_cell? w _ an)).trans an;replace ao := (HB.out.cell (World.block_lt_of_cell? w _ ao)).trans ao;replace aZ := eq_true aZ;replace aW := eq_true aW;go_upto_region 6 with (first | ((with_reducible refine gate_dst (N := 4) rfl ?_); (try (refine gate_guard (by rfl) ?_; dsimp only)); refine bx_ 4 #[.int .i64 0, .int .i64 0, .int .i64 0, .int .i64 0, .int .i64 0] 37 ?_; intro ae hg w17 hbox hb; have n0_ := qa42 (blk_below (g := ag) (kb_ ac.out) hb); have n1_ := qa42 (below_step (bl_ HB.out) hb); have n2_ := qa42 (hbox); have n3_ := qa42 ((sz_ (below_size (bl_ HB.out)) hg : w.heap.size ≤ ae)); have n4_ := qa42 n3_.out; have n5_ := qa42 ((nl_ (blk_lt (g := ag) (kb_ ac.out)) hg : ag ≠ ae)); have n6_ := qa42 (Ne.symm n5_.out); replace ac := n0_; replace HB := n1_; have ab := n2_; have GW489 := n3_; have ah := n4_; have ad := n5_; have aj := n6_; clear n0_ n1_ n2_ n3_ n4_ n5_ n6_; clear hb hbox hg; have hnb18 := aj.out; have hnc18 := ad.out; have cg := c5_ ab.out));(try simp only [Act.put, qa_, qb_, qc_])
          go_cut [66] (fun v66 wc => ∃ (kq : Nat) (ar : Bool), v66 = .bool ar ∧ Aside0 (impl_GrdOk.j2 kq aa l0_2 (l0_2.length : Int) aa ar a0_0 a0_1 l0_2 ((rd_T37 l0_2 aa).f0) ((rd_T37 l0_2 aa).f1) ((rd_T37 l0_2 aa).f2) ((rd_T37 l0_2 aa).f3) ((rd_T37 l0_2 aa).f4) = some r) ∧ Aside0 (kq ≤ k2) ∧ Aside0 (wc.heap[ag]? = some (.cells #[.int .i64 a0_0, .int .i64 a0_1, (.slice (some ai) l0_2.length c0_2)] 33 (0, 0))) ∧ Aside0 (wc.heap[ae]? = some (.cells #[.int .i64 ((rd_T37 l0_2 aa).f0), .int .i64 ((rd_T37 l0_2 aa).f1), .int .i64 ((rd_T37 l0_2 aa).f2), .int .i64 ((rd_T37 l0_2 aa).f3), .int .i64 ((rd_T37 l0_2 aa).f4)] 37 (0, 0))) ∧ Aside0 (Below w.heap.size w wc))
          case first =>
           have H := a7.out;clear a7;obtain ⟨t490, A20, H⟩ := ob_ H;(try dsimp only at H);by_cases c21 : t490 = true
           ·subst c21;(have H1 : ((impl_in.f ((rd_T37 l0_2 aa).f2) 1 (wrap64 (a0_0 - ((rd_T37 l0_2 aa).f0)))).bind fun t491 => (if t491 = true then ((impl_in.f ((rd_T37 l0_2 aa).f1) 0 (wrap64 (a0_1 - 1))).bind fun t492 => (if t492 = true then ((impl_in.f ((rd_T37 l0_2 aa).f3) 1 (wrap64 (a0_1 - ((rd_T37 l0_2 aa).f1)))).bind fun t493 => (impl_GrdOk.j2 k2 aa l0_2 (l0_2.length : Int) aa (!t493) a0_0 a0_1 l0_2 ((rd_T37 l0_2 aa).f0) ((rd_T37 l0_2 aa).f1) ((rd_T37 l0_2 aa).f2) ((rd_T37 l0_2 aa).f3) ((rd_T37 l0_2 aa).f4))) else (impl_GrdOk.j2 k2 aa l0_2 (l0_2.length : Int) aa true a0_0 a0_1 l0_2 ((rd_T37 l0_2 aa).f0) ((rd_T37 l0_2 aa).f1) ((rd_T37 l0_2 aa).f2) ((rd_T37 l0_2 aa).f3) ((rd_T37 l0_2 aa).f4)))) else (impl_GrdOk.j2 k2 aa l0_2 (l0_2.length : Int) aa true a0_0 a0_1 l0_2 ((rd_T37 l0_2 aa).f0) ((rd_T37 l0_2 aa).f1) ((rd_T37 l0_2 aa).f2) ((rd_T37 l0_2 aa).f3) ((rd_T37 l0_2 aa).f4)))) = some r := by rw [if_pos rfl] at H; exact H);clear H;have H := H1;clear H1;obtain ⟨t491, A22, H⟩ := ob_ H;(try dsimp only at H);by_cases c23 : t491 = true
            ·subst c23;(have H1 : ((impl_in.f ((rd_T37 l0_2 aa).f1) 0 (wrap64 (a0_1 - 1))).bind fun t492 => (if t492 = true then ((impl_in.f ((rd_T37 l0_2 aa).f3) 1 (wrap64 (a0_1 - ((rd_T37 l0_2 aa).f1)))).bind fun t493 => (impl_GrdOk.j2 k2 aa l0_2 (l0_2.length : Int) aa (!t493) a0_0 a0_1 l0_2 ((rd_T37 l0_2 aa).f0) ((rd_T37 l0_2 aa).f1) ((rd_T37 l0_2 aa).f2) ((rd_T37 l0_2 aa).f3) ((rd_T37 l0_2 aa).f4))) else (impl_GrdOk.j2 k2 aa l0_2 (l0_2.length : Int) aa true a0_0 a0_1 l0_2 ((rd_T37 l0_2 aa).f0) ((rd_T37 l0_2 aa).f1) ((rd_T37 l0_2 aa).f2) ((rd_T37 l0_2 aa).f3) ((rd_T37 l0_2 aa).f4)))) = some r := by rw [if_pos rfl] at H; exact H);clear H;have H := H1;clear H1;obtain ⟨t492, A24, H⟩ := ob_ H;(try dsimp only at H);by_cases c25 : t492 = true
             ·subst c25;(have H1 : ((impl_in.f ((rd_T37 l0_2 aa).f3) 1 (wrap64 (a0_1 - ((rd_T37 l0_2 aa).f1)))).bind fun t493 => (impl_GrdOk.j2 k2 aa l0_2 (l0_2.length : Int) aa (!t493) a0_0 a0_1 l0_2 ((rd_T37 l0_2 aa).f0) ((rd_T37 l0_2 aa).f1) ((rd_T37 l0_2 aa).f2) ((rd_T37 l0_2 aa).f3) ((rd_T37 l0_2 aa).f4))) = some r := by rw [if_pos rfl] at H; exact H);clear H;have H := H1;clear H1;obtain ⟨t493, A26, H⟩ := ob_ H;(try dsimp only at H);have H' := qa42 H;clear H;have hnb27 := aj.out;have hnc27 := ad.out;have bQ := c5_ ab.out;have bw := c3_ ac.out;(go_wp2_with (first | ((with_reducible refine gate_callee (f := 28) rfl ?_); refine gl_ (some 34) Tryd.func28 #[.int .i64 ((rd_T37 l0_2 aa).f0), .int .i64 0, .int .i64 (wrap64 (a0_0 - 1))] ?_; (with_reducible refine (impl_in.calls ((rd_T37 l0_2 aa).f0) 0 (wrap64 (a0_0 - 1)) true _ A20.out).mono ?_); rintro e w' ⟨rfl, ⟨nd, rfl⟩⟩; refine ⟨_, rfl, ?_⟩) | (go_at_call 28; (with_reducible refine (impl_in.calls ((rd_T37 l0_2 aa).f2) 1 (wrap64 (a0_0 - ((rd_T37 l0_2 aa).f0))) true _ A22.out).mono ?_); rintro e w' ⟨rfl, ⟨nd, rfl⟩⟩) | (go_at_call 28; (with_reducible refine (impl_in.calls ((rd_T37 l0_2 aa).f1) 0 (wrap64 (a0_1 - 1)) true _ A24.out).mono ?_); rintro e w' ⟨rfl, ⟨nd, rfl⟩⟩) | (go_at_call 28; (with_reducible refine (impl_in.calls ((rd_T37 l0_2 aa).f3) 1 (wrap64 (a0_1 - ((rd_T37 l0_2 aa).f1))) t493 _ A26.out).mono ?_); rintro e w' ⟨rfl, ⟨nd, rfl⟩⟩)));go_meet
              (case rel => exact ⟨_, (!t493), rf_, H', ⟨by have := HJ1.out; have := HK2.out; first | omega | exact Nat.le_refl _⟩, ⟨kf_ ac.out⟩, ⟨kf_ ab.out⟩, ⟨bl_ HB.out⟩⟩)
             replace c25 := Bool.eq_false_iff.mpr c25;subst c25;(have H1 : (impl_GrdOk.j2 k2 aa l0_2 (l0_2.length : Int) aa true a0_0 a0_1 l0_2 ((rd_T37 l0_2 aa).f0) ((rd_T37 l0_2 aa).f1) ((rd_T37 l0_2 aa).f2) ((rd_T37 l0_2 aa).f3) ((rd_T37 l0_2 aa).f4)) = some r := by rw [if_neg (show ¬ (false = true) by decide)] at H; exact H);clear H;have H := H1;clear H1;have H' := qa42 H;clear H;have hnb30 := aj.out;have hnc30 := ad.out;have cf := c5_ ab.out;have bF := c3_ ac.out;(go_wp2_with (first | ((with_reducible refine gate_callee (f := 28) rfl ?_); refine gl_ (some 34) Tryd.func28 #[.int .i64 ((rd_T37 l0_2 aa).f0), .int .i64 0, .int .i64 (wrap64 (a0_0 - 1))] ?_; (with_reducible refine (impl_in.calls ((rd_T37 l0_2 aa).f0) 0 (wrap64 (a0_0 - 1)) true _ A20.out).mono ?_); rintro e w' ⟨rfl, ⟨nd, rfl⟩⟩; refine ⟨_, rfl, ?_⟩) | (go_at_call 28; (with_reducible refine (impl_in.calls ((rd_T37 l0_2 aa).f2) 1 (wrap64 (a0_0 - ((rd_T37 l0_2 aa).f0))) true _ A22.out).mono ?_); rintro e w' ⟨rfl, ⟨nd, rfl⟩⟩) | (go_at_call 28; (with_reducible refine (impl_in.calls ((rd_T37 l0_2 aa).f1) 0 (wrap64 (a0_1 - 1)) false _ A24.out).mono ?_); rintro e w' ⟨rfl, ⟨nd, rfl⟩⟩)));go_meet
             (case rel => exact ⟨_, (true), rf_, H', ⟨by have := HJ1.out; have := HK2.out; first | omega | exact Nat.le_refl _⟩, ⟨kf_ ac.out⟩, ⟨kf_ ab.out⟩, ⟨bl_ HB.out⟩⟩)
            replace c23 := Bool.eq_false_iff.mpr c23;subst c23;(have H1 : (impl_GrdOk.j2 k2 aa l0_2 (l0_2.length : Int) aa true a0_0 a0_1 l0_2 ((rd_T37 l0_2 aa).f0) ((rd_T37 l0_2 aa).f1) ((rd_T37 l0_2 aa).f2) ((rd_T37 l0_2 aa).f3) ((rd_T37 l0_2 aa).f4)) = some r := by rw [if_neg (show ¬ (false = true) by decide)] at H; exact H);clear H;have H := H1;clear H1;have H' := qa42 H;clear H;have hnb33 := aj.out;have hnc33 := ad.out;have bG := c5_ ab.out;have bt := c3_ ac.out;(go_wp2_with (first | ((with_reducible refine gate_callee (f := 28) rfl ?_); refine gl_ (some 34) Tryd.func28 #[.int .i64 ((rd_T37 l0_2 aa).f0), .int .i64 0, .int .i64 (wrap64 (a0_0 - 1))] ?_; (with_reducible refine (impl_in.calls ((rd_T37 l0_2 aa).f0) 0 (wrap64 (a0_0 - 1)) true _ A20.out).mono ?_); rintro e w' ⟨rfl, ⟨nd, rfl⟩⟩; refine ⟨_, rfl, ?_⟩) | (go_at_call 28; (with_reducible refine (impl_in.calls ((rd_T37 l0_2 aa).f2) 1 (wrap64 (a0_0 - ((rd_T37 l0_2 aa).f0))) false _ A22.out).mono ?_); rintro e w' ⟨rfl, ⟨nd, rfl⟩⟩)));go_meet;(case rel => exact ⟨_, (true), rf_, H', ⟨by have := HJ1.out; have := HK2.out; first | omega | exact Nat.le_refl _⟩, ⟨kf_ ac.out⟩, ⟨kf_ ab.out⟩, ⟨bl_ HB.out⟩⟩)
           replace c21 := Bool.eq_false_iff.mpr c21;subst c21;(have H1 : (impl_GrdOk.j2 k2 aa l0_2 (l0_2.length : Int) aa true a0_0 a0_1 l0_2 ((rd_T37 l0_2 aa).f0) ((rd_T37 l0_2 aa).f1) ((rd_T37 l0_2 aa).f2) ((rd_T37 l0_2 aa).f3) ((rd_T37 l0_2 aa).f4)) = some r := by rw [if_neg (show ¬ (false = true) by decide)] at H; exact H);clear H;have H := H1;clear H1;have H' := qa42 H;clear H;have hnb36 := aj.out;have hnc36 := ad.out;have bX := c5_ ab.out;have bV := c3_ ac.out;(go_wp2_with (first | ((with_reducible refine gate_callee (f := 28) rfl ?_); refine gl_ (some 34) Tryd.func28 #[.int .i64 ((rd_T37 l0_2 aa).f0), .int .i64 0, .int .i64 (wrap64 (a0_0 - 1))] ?_; (with_reducible refine (impl_in.calls ((rd_T37 l0_2 aa).f0) 0 (wrap64 (a0_0 - 1)) false _ A20.out).mono ?_); rintro e w' ⟨rfl, ⟨nd, rfl⟩⟩; refine ⟨_, rfl, ?_⟩)));go_meet;(case rel => exact ⟨_, (true), rf_, H', ⟨by have := HJ1.out; have := HK2.out; first | omega | exact Nat.le_refl _⟩, ⟨kf_ ac.out⟩, ⟨kf_ ab.out⟩, ⟨bl_ HB.out⟩⟩)
          case rest =>
           clear a7;(try clear c1);(try clear c2);(try clear p2);(try clear c3);(try clear c4);(try clear p4);(try clear q4);(try clear hx4);(try clear c5);(try clear p6);(try clear c7);(try clear c11);(try clear c13);(try clear a9);(try clear c14);(try clear cD);(try clear c15);(try clear cC);(try clear c18);(try clear c21);(try clear c23);(try clear c25);(try clear c27);(try clear c28);(try clear c30);(try clear c33);(try clear c36);(try clear av);(try clear aV);(try clear cg);(try clear bQ);(try clear bw);(try clear cf);(try clear bF);(try clear bG);(try clear bt);(try clear bX);(try clear bV);(try clear aK);(try clear aJ);(try clear am);(try clear ap);(try clear al);(try clear an);(try clear ao);(try clear p2);(try clear aZ);(try clear aW);obtain ⟨kq, ar, rfl, HA, cx, ac, ab, HB⟩ := hcut
           cases kq with
            | zero => exact absurd HA.out (by simp [impl_GrdOk.j2])
            | succ kj15 =>
             have H := HA.out;clear HA;simp only [impl_GrdOk.j2] at H;by_cases c39 : ar = true;(·subst c39;(have H1 : (some false) = some r := by rw [if_pos rfl] at H; exact H);clear H;have H := H1;clear H1;obtain rfl := Option.some.inj H;go_wp2;go_ret;exact ⟨rg_, bl_ HB.out⟩)
             replace c39 := Bool.eq_false_iff.mpr c39;subst c39;(have H1 : ((impl_in.f ((rd_T37 l0_2 aa).f4) 0 4).bind fun t494 => (if t494 = true then (if 0 ≤ aa then (if aa ≤ (l0_2.length : Int) then ((impl_GrdCell_39.f (l0_2.take (aa : Int).toNat) ((rd_T37 l0_2 aa).f0) ((rd_T37 l0_2 aa).f1) ((rd_T37 l0_2 aa).f2) ((rd_T37 l0_2 aa).f3) ((rd_T37 l0_2 aa).f4)).bind fun t499 => (if t499 = true then (some false) else (impl_GrdOk.l0 kj15 l0_2 (l0_2.length : Int) (wrap64 (aa + 1)) a0_0 a0_1 l0_2))) else (none)) else (none)) else (some false))) = some r := by rw [if_neg (show ¬ (false = true) by decide)] at H; exact H);clear H;have H := H1;clear H1;obtain ⟨t494, A40, H⟩ := ob_ H;(try dsimp only at H);by_cases c41 : t494 = true
             ·subst c41;(have H1 : (if 0 ≤ aa then (if aa ≤ (l0_2.length : Int) then ((impl_GrdCell_39.f (l0_2.take (aa : Int).toNat) ((rd_T37 l0_2 aa).f0) ((rd_T37 l0_2 aa).f1) ((rd_T37 l0_2 aa).f2) ((rd_T37 l0_2 aa).f3) ((rd_T37 l0_2 aa).f4)).bind fun t499 => (if t499 = true then (some false) else (impl_GrdOk.l0 kj15 l0_2 (l0_2.length : Int) (wrap64 (aa + 1)) a0_0 a0_1 l0_2))) else (none)) else (none)) = some r := by rw [if_pos rfl] at H; exact H);clear H;have H := H1;clear H1;by_cases c42 : 0 ≤ aa
              ·rw [if_pos c42] at H;have c42b0 := eq_true c42;have c42b1 : decide (0 ≤ aa) = true := decide_eq_true c42;clear c42;by_cases c43 : aa ≤ (l0_2.length : Int)
               ·rw [if_pos c43] at H;have c43b0 := eq_true c43;have c43b1 : decide (aa ≤ (l0_2.length : Int)) = true := decide_eq_true c43;clear c43;obtain ⟨ak, aq⟩ : ∃ y_ : List (S37), y_ = (l0_2.take (aa : Int).toNat) := ⟨_, rfl⟩;(replace H : ((impl_GrdCell_39.f ak ((rd_T37 l0_2 aa).f0) ((rd_T37 l0_2 aa).f1) ((rd_T37 l0_2 aa).f2) ((rd_T37 l0_2 aa).f3) ((rd_T37 l0_2 aa).f4)).bind fun t499 => (if t499 = true then (some false) else (impl_GrdOk.l0 kj15 l0_2 (l0_2.length : Int) (wrap64 (aa + 1)) a0_0 a0_1 l0_2))) = some r := hb_ aq H);have aA := qa42 aq;clear aq;obtain ⟨t499, A44, H⟩ := ob_ H;(try dsimp only at H);by_cases c45 : t499 = true
                ·subst c45;(have H1 : (some false) = some r := by rw [if_pos rfl] at H; exact H);clear H;have H := H1;clear H1;obtain rfl := Option.some.inj H;(try go_wp2);have n0_ := qa42 (blk_drew ac.out);have n1_ := qa42 (blk_drew ab.out);have n2_ := qa42 (below_drew1 HB.out);replace ac := n0_;replace ab := n1_;replace HB := n2_;clear n0_ n1_ n2_;refine start_ (n := 13) (S := fun w' => w'.cell? ⟨ae, 0, none⟩ = some (.int .i64 ((rd_T37 l0_2 aa).f0)) ∧ w'.cell? ⟨ae, 1, none⟩ = some (.int .i64 ((rd_T37 l0_2 aa).f1)) ∧ w'.cell? ⟨ae, 2, none⟩ = some (.int .i64 ((rd_T37 l0_2 aa).f2)) ∧ w'.cell? ⟨ae, 3, none⟩ = some (.int .i64 ((rd_T37 l0_2 aa).f3)) ∧ w'.cell? ⟨ae, 4, none⟩ = some (.int .i64 ((rd_T37 l0_2 aa).f4)) ∧ w'.cell? ⟨ag, 0, none⟩ = some (.int .i64 a0_0) ∧ w'.cell? ⟨ag, 1, none⟩ = some (.int .i64 a0_1) ∧ w'.cell? ⟨ag, 2, none⟩ = some (.slice (some ai) l0_2.length c0_2)) (ds := []) m42_0 (by kernel_rfl) rfl rfl ⟨(qc42 ab.out 0).trans rfl, (qc42 ab.out 1).trans rfl, (qc42 ab.out 2).trans rfl, (qc42 ab.out 3).trans rfl, (qc42 ab.out 4).trans rfl, (qc42 ac.out 0).trans rfl, (qc42 ac.out 1).trans rfl, (qc42 ac.out 2).trans rfl⟩ (fun hHeld => ?_); refine with_tabW impl_GrdOk.tab8 impl_GrdOk.bits8 (fun HT_ HW_ => ?_);generalize wc.drew = w46 at ac ab HB hHeld ⊢;refine pv_ 0 67 m42_1 HT_ ?_;refine tk_ 1 68 m42_2 HT_ HW_ hHeld ?_;refine one_ (i := 2) (N := some 69) m42_3 rfl rfl (one_of HT_.out (by kernel_rfl)) (by decide) (fun K hK => ?_);refine gs_ Tryd.func28 #[.int .i64 ((rd_T37 l0_2 aa).f4), .int .i64 0, .int .i64 4] ?_;(with_reducible refine (impl_in.calls ((rd_T37 l0_2 aa).f4) 0 4 true _ A40.out).mono ?_);rintro e w' ⟨rfl, ⟨nd, rfl⟩⟩;refine ⟨_, rfl, ?_⟩;have q47 : (aa : Int) ≤ ((l0_2.length : Int) : Int) := dq_;obtain ⟨i047, ba, _, cE, _⟩ := info_parts info37;have aP : l0_2.length ≤ c0_2 := bb.out;have cz : Kd.C k37 _ (some ai) l0_2.length l0_2 := a3.out;have cA := cut_to (P := Tryd.prog) 31 37 .i64 Tryd.underlying31 ba (some ai) l0_2.length c0_2 aa dq_ q47 aP;have a8 := Kd.C_take (m := (aa : Int).toNat) cz (by omega);have a6 : ak.length = (aa : Int).toNat := (by rw [aA.out, List.length_take]; omega);rw [← aA.out] at a8;rw [← a6] at cA;have aY := qa42 a8
                 have aX := qa42 (show ak.length ≤ c0_2 from by omega);clear a8 cz aP ba cE;have KY47 := qa42 a6;clear a6;replace q47 := eq_true q47;refine hh_ hK (fun hHeld => ?_);clear hK K;refine nm_ (some 69) ?_;refine pv_ 3 70 m42_4 HT_ ?_;refine pv_ 4 71 m42_5 HT_ ?_;refine pv_ 5 72 m42_6 HT_ ?_;refine pv_ 7 74 m42_7 HT_ ?_;refine tk_ 6 73 m42_8 HT_ HW_ hHeld ?_;refine pv_ 8 75 m42_9 HT_ ?_;refine tk_ 9 76 m42_10 HT_ HW_ hHeld ?_;refine pv_ 10 77 m42_11 HT_ ?_;refine one_ (i := 11) (N := some 78) m42_12 rfl rfl (one_of HT_.out (by kernel_rfl)) (by decide) (fun K hK => ?_)
                 refine gs_ Tryd.func39 #[.slice (some ai) ak.length c0_2, .func (.func 40) #[.agg #[.int .i64 ((rd_T37 l0_2 aa).f0), .int .i64 ((rd_T37 l0_2 aa).f1), .int .i64 ((rd_T37 l0_2 aa).f2), .int .i64 ((rd_T37 l0_2 aa).f3), .int .i64 ((rd_T37 l0_2 aa).f4)]] #[]] ?_;(with_reducible refine (impl_GrdCell_39.calls _ _ ak ((rd_T37 l0_2 aa).f0) ((rd_T37 l0_2 aa).f1) ((rd_T37 l0_2 aa).f2) ((rd_T37 l0_2 aa).f3) ((rd_T37 l0_2 aa).f4) true _ ?side1 ?side2 A44.out).mono ?_);(case side1 => exact kc_ (Kd.C_below aY.out (bl_ HB.out)));(case side2 => exact aX.out);rintro e w48 ⟨rfl, hb⟩;refine ⟨_, rfl, ?_⟩;have n0_ := qa42 (blk_below (g := ag) (kb_ ac.out) hb);have n1_ := qa42 (blk_below (g := ae) (kb_ ab.out) hb);have n2_ := qa42 (below_step (bl_ HB.out) hb);replace ac := n0_;replace ab := n1_;replace HB := n2_;clear n0_ n1_ n2_;(try clear hb);(try clear hb2);(try clear hk);(try clear hi);refine hh_ hK (fun hHeld => ?_);clear hK K;refine nm_ (some 78) ?_;refine pv_ 12 79 m42_13 HT_ ?_;refine done_ (done_of HT_.out (by kernel_rfl)) ?_;(try go_wp2);go_ret;exact ⟨rg_, bl_ HB.out⟩
                replace c45 := Bool.eq_false_iff.mpr c45;subst c45;(have H1 : (impl_GrdOk.l0 kj15 l0_2 (l0_2.length : Int) (wrap64 (aa + 1)) a0_0 a0_1 l0_2) = some r := by rw [if_neg (show ¬ (false = true) by decide)] at H; exact H);clear H;have H := H1;clear H1;have H' := qa42 H;clear H;(try go_wp2);have n0_ := qa42 (blk_drew ac.out);have n1_ := qa42 (blk_drew ab.out);have n2_ := qa42 (below_drew1 HB.out);replace ac := n0_;replace ab := n1_;replace HB := n2_;clear n0_ n1_ n2_;refine start_ (n := 13) (S := fun w' => w'.cell? ⟨ae, 0, none⟩ = some (.int .i64 ((rd_T37 l0_2 aa).f0)) ∧ w'.cell? ⟨ae, 1, none⟩ = some (.int .i64 ((rd_T37 l0_2 aa).f1)) ∧ w'.cell? ⟨ae, 2, none⟩ = some (.int .i64 ((rd_T37 l0_2 aa).f2)) ∧ w'.cell? ⟨ae, 3, none⟩ = some (.int .i64 ((rd_T37 l0_2 aa).f3)) ∧ w'.cell? ⟨ae, 4, none⟩ = some (.int .i64 ((rd_T37 l0_2 aa).f4)) ∧ w'.cell? ⟨ag, 0, none⟩ = some (.int .i64 a0_0) ∧ w'.cell? ⟨ag, 1, none⟩ = some (.int .i64 a0_1) ∧ w'.cell? ⟨ag, 2, none⟩ = some (.slice (some ai) l0_2.length c0_2)) (ds := []) m42_0 (by kernel_rfl) rfl rfl ⟨(qc42 ab.out 0).trans rfl, (qc42 ab.out 1).trans rfl, (qc42 ab.out 2).trans rfl, (qc42 ab.out 3).trans rfl, (qc42 ab.out 4).trans rfl, (qc42 ac.out 0).trans rfl, (qc42 ac.out 1).trans rfl, (qc42 ac.out 2).trans rfl⟩ (fun hHeld => ?_); refine with_tabW impl_GrdOk.tab8 impl_GrdOk.bits8 (fun HT_ HW_ => ?_);generalize wc.drew = w49 at ac ab HB hHeld ⊢;refine pv_ 0 67 m42_1 HT_ ?_;refine tk_ 1 68 m42_2 HT_ HW_ hHeld ?_;refine one_ (i := 2) (N := some 69) m42_3 rfl rfl (one_of HT_.out (by kernel_rfl)) (by decide) (fun K hK => ?_);refine gs_ Tryd.func28 #[.int .i64 ((rd_T37 l0_2 aa).f4), .int .i64 0, .int .i64 4] ?_;(with_reducible refine (impl_in.calls ((rd_T37 l0_2 aa).f4) 0 4 true _ A40.out).mono ?_);rintro e w' ⟨rfl, ⟨nd, rfl⟩⟩;refine ⟨_, rfl, ?_⟩;have q50 : (aa : Int) ≤ ((l0_2.length : Int) : Int) := dq_;obtain ⟨i050, bc, _, cF, _⟩ := info_parts info37;have aS : l0_2.length ≤ c0_2 := bb.out;have cr : Kd.C k37 _ (some ai) l0_2.length l0_2 := a3.out;have cq := cut_to (P := Tryd.prog) 31 37 .i64 Tryd.underlying31 bc (some ai) l0_2.length c0_2 aa dq_ q50 aS;have a4 := Kd.C_take (m := (aa : Int).toNat) cr (by omega)
                have a5 : ak.length = (aa : Int).toNat := (by rw [aA.out, List.length_take]; omega);rw [← aA.out] at a4;rw [← a5] at cq;have aY := qa42 a4;have aX := qa42 (show ak.length ≤ c0_2 from by omega);clear a4 cr aS bc cF;have KY50 := qa42 a5;clear a5;replace q50 := eq_true q50;refine hh_ hK (fun hHeld => ?_);clear hK K;refine nm_ (some 69) ?_;refine pv_ 3 70 m42_4 HT_ ?_;refine pv_ 4 71 m42_5 HT_ ?_;refine pv_ 5 72 m42_6 HT_ ?_;refine pv_ 7 74 m42_7 HT_ ?_;refine tk_ 6 73 m42_8 HT_ HW_ hHeld ?_;refine pv_ 8 75 m42_9 HT_ ?_;refine tk_ 9 76 m42_10 HT_ HW_ hHeld ?_;refine pv_ 10 77 m42_11 HT_ ?_
                refine one_ (i := 11) (N := some 78) m42_12 rfl rfl (one_of HT_.out (by kernel_rfl)) (by decide) (fun K hK => ?_);refine gs_ Tryd.func39 #[.slice (some ai) ak.length c0_2, .func (.func 40) #[.agg #[.int .i64 ((rd_T37 l0_2 aa).f0), .int .i64 ((rd_T37 l0_2 aa).f1), .int .i64 ((rd_T37 l0_2 aa).f2), .int .i64 ((rd_T37 l0_2 aa).f3), .int .i64 ((rd_T37 l0_2 aa).f4)]] #[]] ?_;(with_reducible refine (impl_GrdCell_39.calls _ _ ak ((rd_T37 l0_2 aa).f0) ((rd_T37 l0_2 aa).f1) ((rd_T37 l0_2 aa).f2) ((rd_T37 l0_2 aa).f3) ((rd_T37 l0_2 aa).f4) false _ ?side1 ?side2 A44.out).mono ?_);(case side1 => exact kc_ (Kd.C_below aY.out (bl_ HB.out)));(case side2 => exact aX.out);rintro e w51 ⟨rfl, hb⟩;refine ⟨_, rfl, ?_⟩;have n0_ := qa42 (blk_below (g := ag) (kb_ ac.out) hb);have n1_ := qa42 (blk_below (g := ae) (kb_ ab.out) hb);have n2_ := qa42 (below_step (bl_ HB.out) hb);replace ac := n0_;replace ab := n1_;replace HB := n2_;clear n0_ n1_ n2_;(try clear hb);(try clear hb2);(try clear hk);(try clear hi);refine hh_ hK (fun hHeld => ?_);clear hK K;refine nm_ (some 78) ?_;refine pv_ 12 79 m42_13 HT_ ?_;refine done_ (done_of HT_.out (by kernel_rfl)) ?_;(try go_wp2);go_roundg kj15;(case measure => have := HJ1.out; have := HK2.out; have := cx.out; omega);(case rel => exact ⟨(wrap64 (aa + 1)), rf_, H', ⟨by have := HJ1.out; have := HK2.out; have := cx.out; omega⟩, ⟨kb_ ac.out⟩, ⟨bl_ HB.out⟩⟩)
               rw [if_neg c43] at H;exact absurd H (by simp)
              rw [if_neg c42] at H;exact absurd H (by simp)
             replace c41 := Bool.eq_false_iff.mpr c41;subst c41;(have H1 : (some false) = some r := by rw [if_neg (show ¬ (false = true) by decide)] at H; exact H);clear H;have H := H1;clear H1;obtain rfl := Option.some.inj H;(try go_wp2);have n0_ := qa42 (blk_drew ac.out);have n1_ := qa42 (blk_drew ab.out);have n2_ := qa42 (below_drew1 HB.out);replace ac := n0_;replace ab := n1_;replace HB := n2_;clear n0_ n1_ n2_;refine start_ (n := 13) (S := fun w' => w'.cell? ⟨ae, 0, none⟩ = some (.int .i64 ((rd_T37 l0_2 aa).f0)) ∧ w'.cell? ⟨ae, 1, none⟩ = some (.int .i64 ((rd_T37 l0_2 aa).f1)) ∧ w'.cell? ⟨ae, 2, none⟩ = some (.int .i64 ((rd_T37 l0_2 aa).f2)) ∧ w'.cell? ⟨ae, 3, none⟩ = some (.int .i64 ((rd_T37 l0_2 aa).f3)) ∧ w'.cell? ⟨ae, 4, none⟩ = some (.int .i64 ((rd_T37 l0_2 aa).f4))) (ds := []) m42_0 (by kernel_rfl) rfl rfl ⟨(qc42 ab.out 0).trans rfl, (qc42 ab.out 1).trans rfl, (qc42 ab.out 2).trans rfl, (qc42 ab.out 3).trans rfl, (qc42 ab.out 4).trans rfl⟩ (fun hHeld => ?_); refine with_tabW impl_GrdOk.tab8 impl_GrdOk.bits8 (fun HT_ HW_ => ?_);generalize wc.drew = w52 at ac ab HB hHeld ⊢;refine pv_ 0 67 m42_1 HT_ ?_;refine tk_ 1 68 m42_2 HT_ HW_ hHeld ?_;refine one_ (i := 2) (N := some 69) m42_3 rfl rfl (one_of HT_.out (by kernel_rfl)) (by decide) (fun K hK => ?_);refine gs_ Tryd.func28 #[.int .i64 ((rd_T37 l0_2 aa).f4), .int .i64 0, .int .i64 4] ?_;(with_reducible refine (impl_in.calls ((rd_T37 l0_2 aa).f4) 0 4 false _ A40.out).mono ?_);rintro e w' ⟨rfl, ⟨nd, rfl⟩⟩;refine ⟨_, rfl, ?_⟩;refine hh_ hK (fun hHeld => ?_);clear hK K;refine nm_ (some 69) ?_;refine pv_ 3 70 m42_4 HT_ ?_;refine pv_ 4 71 m42_5 HT_ ?_;refine pw_ 5 72 m42_6 HT_ ?_;refine pw_ 6 73 m42_14 HT_ ?_;refine pw_ 7 74 m42_8 HT_ ?_;refine pw_ 8 75 m42_9 HT_ ?_;refine pw_ 9 76 m42_10 HT_ ?_;refine pw_ 10 77 m42_11 HT_ ?_;refine pw_ 11 78 m42_12 HT_ ?_;refine pv_ 12 79 m42_13 HT_ ?_;refine done_ (done_of HT_.out (by kernel_rfl)) ?_;(try go_wp2);go_ret;exact ⟨rg_, bl_ HB.out⟩
         rw [if_neg c15] at H;exact absurd H (by simp)
        rw [if_neg c14] at H;exact absurd H (by simp)
       rw [if_neg c13] at H;have a9 : decide (aa < (l0_2.length : Int)) = false := decide_eq_false c13;clear c13;obtain rfl := Option.some.inj H;go_wp2;go_ret;exact ⟨rg_, bl_ HB.out⟩
end Go.Proofs.YtnalfnoebhmijaaDoor.Pr
namespace Go.Proofs.YtnalfnoebhmijaaDoor.Pr
open Go.RowKit Go.Proofs.YtnalfnoebhmijaaDoorW.PrintWords Go.Proofs.YtnalfnoebhmijaaDoorW.PrintLast Go.Proofs.YtnalfnoebhmijaaDoorW.PrintMore
attribute [local go_sem] max2_int min2_int max_two min_two max_three min_three max_four min_four
set_option linter.unusedVariables false
set_option linter.unusedSimpArgs false
def overB (row : Int) (c : S37) : Bool := decide (c.f0 < row) && decide (wrap64 (c.f0 + c.f2) > row)
set_option maxHeartbeats 2000000 in
theorem overB_calls (row : Int) (g1 : Nat) (x0 x1 x2 x3 x4 : Int) (w : World) (h1 : w.cell? ⟨g1, 0, none⟩ = some (.int .i64 row)) :
    Calls Tryd.prog 43 #[.agg #[.int .i64 x0, .int .i64 x1, .int .i64 x2, .int .i64 x3, .int .i64 x4], .pointer (some ⟨g1, 0, none⟩)] w fun e w' => e = .returned (.bool (decide (x0 < row) && decide (wrap64 (x0 + x2) > row))) ∧ Below w.heap.size w w' := by
  have l1 : g1 < w.heap.size := World.block_lt_of_cell? w _ h1
  have n1 : ¬ w.heap.size = g1 := by omega
  by_cases c1 : x0 < row
  · go_enter Tryd.func43, Tryd.ntmps43
    go_wp2
    go_ret
    exact ⟨by simp [c1], by repeat (first | exact Below.refl _ _ | apply below_alloc | apply pw_below_drewN | apply below_drew1)⟩
  · go_enter Tryd.func43, Tryd.ntmps43
    go_wp2
    go_ret
    exact ⟨by simp; intro h; omega, by repeat (first | exact Below.refl _ _ | apply below_alloc | apply pw_below_drewN | apply below_drew1)⟩
end Go.Proofs.YtnalfnoebhmijaaDoor.Pr
namespace Go.Proofs.YtnalfnoebhmijaaDoor.Pr
open Go.RowKit Go.Proofs.YtnalfnoebhmijaaDoorW.PrintWords Go.Proofs.YtnalfnoebhmijaaDoorW.PrintLast Go.Proofs.YtnalfnoebhmijaaDoorW.PrintMore
attribute [local go_sem] max2_int min2_int max_two min_two max_three min_three max_four min_four
set_option linter.unusedVariables false
set_option linter.unusedSimpArgs false
def blocksL (l : List S37) : Nat → List Int
  | 0 => []
  | n + 1 => if l.any (overB (n : Int)) = true then blocksL l n else blocksL l n ++ [(n : Int)]
theorem blocksL_le (l : List S37) : ∀ n, (blocksL l n).length ≤ n
  | 0 => Nat.le_refl _
  | n + 1 => by
    have := blocksL_le l n
    unfold blocksL
    split
    · omega
    · simp; omega
def impl_GrdBlocks.f (k : Nat) (a0_0 a0_1 : Int) (l0_2 : List S37) : Option (List Int) :=
  (impl_GrdOk.f k a0_0 a0_1 l0_2).bind fun ok => if ok = true then (if 0 ≤ a0_0 ∧ a0_0 ≤ 8 then some (blocksL l0_2 a0_0.toNat) else none) else some []
set_option maxHeartbeats 4000000 in
set_option maxRecDepth 100000 in
theorem impl_GrdBlocks.calls (k : Nat) (a0_0 a0_1 : Int) (A0_2 : Option Addr) (c0_2 : Nat) (l0_2 : List S37) (r : List Int) (w : World) (hr0_2 : Kd.C k37 w A0_2 l0_2.length l0_2) (hc0_2 : l0_2.length ≤ c0_2) (h : impl_GrdBlocks.f k a0_0 a0_1 l0_2 = some r) :
    Calls Tryd.prog 15 #[.agg #[.int .i64 a0_0, .int .i64 a0_1, .slice A0_2 l0_2.length c0_2]] w fun e w' => ∃ v0_ : Value, e = .returned (v0_) ∧ Kd.R (Kd.int .i64) 3 w' w.heap.size (fun _ => True) v0_ r ∧ Below w.heap.size w w' := by
  unfold impl_GrdBlocks.f at h
  obtain ⟨ok, hok, h⟩ := Option.bind_eq_some_iff.mp h
  have bel : ∀ o, Below w.heap.size w (w.alloc o) := fun o => below_alloc (Below.refl w.heap.size w) o
  have hcall : ∀ o, Calls Tryd.prog 42 #[.agg #[.int .i64 a0_0, .int .i64 a0_1, .slice A0_2 l0_2.length c0_2]] (w.alloc o) fun e w' => e = .returned (.bool ok) ∧ Below (w.alloc o).heap.size (w.alloc o) w' :=
    fun o => impl_GrdOk.calls k a0_0 a0_1 A0_2 c0_2 l0_2 ok _ (Kd.C_below hr0_2 (bel o)) hc0_2 hok
  have HC := Aside0.mk hcall
  clear hcall hok
  cases ok with
  | false =>
    obtain rfl : [] = r := Option.some.inj h
    clear h hr0_2
    have HBel := Aside0.mk bel
    clear bel
    go_enter Tryd.func15, Tryd.ntmps15
    go_wp2_with (go_at_call 42; refine (HC.out _).mono ?_; rintro e w' ⟨rfl, hb'⟩)
    go_ret
    exact ⟨_, rfl, Kd.R_nil _ _ _ _ _, below_then (HBel.out _) (HBel.out _).size hb'⟩
  | true =>
    rw [if_pos rfl] at h
    by_cases hn : 0 ≤ a0_0 ∧ a0_0 ≤ 8
    case neg => rw [if_neg hn] at h; cases h
    rw [if_pos hn] at h
    obtain rfl := Option.some.inj h
    clear h
    obtain ⟨n, rfl⟩ : ∃ n : Nat, a0_0 = n := ⟨a0_0.toNat, by omega⟩
    have hn8 : n ≤ 8 := by omega
    clear hn
    have HR := Aside0.mk hr0_2
    have HBel := Aside0.mk bel
    clear hr0_2 bel
    go_enter Tryd.func15, Tryd.ntmps15
    go_wp2_with (go_at_call 42; refine (HC.out _).mono ?_; rintro e w1 ⟨rfl, hb'⟩; have HB1 := Aside0.mk (below_then (HBel.out _) (HBel.out _).size hb'); have HK1 := Aside0.mk (blk_below (blk_new w _) hb'); have hz0 := (blk_cell HK1.out 0).trans rfl; have hz2 := (blk_cell HK1.out 2).trans rfl; clear hb')
    go_loopg [3, 10] n (fun gk v3 v10 wr => ∃ j : Nat, j ≤ n ∧ n - j ≤ gk ∧ v10 = .int .i64 j ∧ Aside0 (Kd.R (Kd.int .i64) 3 wr w.heap.size (fun _ => True) v3 (blocksL l0_2 j)) ∧ Aside0 (wr.heap[w.heap.size]? = some (.cells #[.int .i64 n, .int .i64 a0_1, .slice A0_2 l0_2.length c0_2] 33 (0, 0))) ∧ Aside0 (Below w.heap.size w wr))
    case atStart => exact ⟨0, Nat.zero_le _, by omega, rfl, ⟨Kd.R_nil _ _ _ _ _⟩, HK1, HB1⟩
    case round =>
      clear HB1 HK1 hz0 hz2
      obtain ⟨j, hj, hg, rfl, HO, HK, HB⟩ := hrel
      by_cases hlt : j < n
      · have hltz : (j : Int) < (n : Int) := by omega
        have hz0 : wr.cell? ⟨w.heap.size, 0, none⟩ = some (.int .i64 n) := (blk_cell HK.out 0).trans rfl
        have hz2 : wr.cell? ⟨w.heap.size, 2, none⟩ = some (.slice A0_2 l0_2.length c0_2) := (blk_cell HK.out 2).trans rfl
        have hcall : ∀ (W : World) (g : Nat), Below w.heap.size w W → W.cell? ⟨g, 0, none⟩ = some (.int .i64 j) → Calls Tryd.prog 39 #[.slice A0_2 l0_2.length c0_2, .func (.func 43) #[] #[.pointer (some ⟨g, 0, none⟩)]] W fun e w' => e = .returned (.bool (l0_2.any (overB j))) ∧ Below W.heap.size W w' := fun W g hb hcell => by
          refine contGrd_calls (overB j) 43 _ _ (enters_ Tryd.func43 (by kernel_rfl) rfl) A0_2 c0_2 l0_2 W (Kd.C_below HR.out hb) hc0_2 (fun W' x _ hb' => ?_)
          exact overB_calls j g x.f0 x.f1 x.f2 x.f3 x.f4 W' ((hb'.cell (World.block_lt_of_cell? W _ hcell)).trans hcell)
        have hlen := blocksL_le l0_2 j
        have hlw : w.heap.size < wr.heap.size := blk_lt HK.out
        have hne : ¬ w.heap.size = wr.heap.size := by omega
        cases hq : l0_2.any (overB j) with
        | true =>
          rw [hq] at hcall
          have HCC := Aside0.mk hcall
          have HE := Aside0.mk (show blocksL l0_2 (j + 1) = blocksL l0_2 j by rw [blocksL, if_pos hq])
          clear hcall hq hlen
          go_wp2_with (first | (go_at_call 39; refine (HCC.out _ wr.heap.size (below_alloc HB.out _) (cell_of_one (blk_new wr _))).mono ?_; rintro e w5 ⟨rfl, hb5⟩; have hz19 : w5.cell? ⟨wr.heap.size, 0, none⟩ = some (.int .i64 j) := cell_of_one (blk_below (blk_new wr _) hb5); have HB5 := Aside0.mk (below_then (below_alloc (Below.refl wr.heap.size wr) _) (below_alloc (Below.refl wr.heap.size wr) _).size hb5); clear hb5))
          go_roundg (n - (j + 1))
          case measure => omega
          case rel =>
            exact ⟨j + 1, by omega, by omega, by go_num, ⟨by rw [HE.out]; exact Kd.R_below HO.out HB5.out⟩, ⟨blk_below HK.out HB5.out⟩, ⟨below_step HB.out HB5.out⟩⟩
        | false =>
          rw [hq] at hcall
          have HCC := Aside0.mk hcall
          have HE := Aside0.mk (show blocksL l0_2 (j + 1) = blocksL l0_2 j ++ [(j : Int)] by rw [blocksL, if_neg (by rw [hq]; simp)])
          have HL := Aside0.mk hlen
          clear hcall hq hlen
          go_wp2_with (first | (go_at_call 39; refine (HCC.out _ wr.heap.size (below_alloc HB.out _) (cell_of_one (blk_new wr _))).mono ?_; rintro e w5 ⟨rfl, hb5⟩; have hz19 : w5.cell? ⟨wr.heap.size, 0, none⟩ = some (.int .i64 j) := cell_of_one (blk_below (blk_new wr _) hb5); have HB5 := Aside0.mk (below_then (below_alloc (Below.refl wr.heap.size wr) _) (below_alloc (Below.refl wr.heap.size wr) _).size hb5); clear hb5) | ((with_reducible refine gate_builtin (b := .append) (xs := #[.tmp 18, .tmp 20]) rfl ?_); at_builtin; refine Kd.R_append (Kd.int .i64) (w0 := w) w.heap.size rfl (.tmp 18) (.tmp 20) 38 3 (.int .i64 0) 8 rfl Tryd.underlying38 info3 rfl (by decide) (by omega) u3 (blocksL l0_2 j) (j : Int) [.int .i64 j] (fun _ => True) (fun _ => False) rfl rfl ?aP (fun _ hk => hk.elim) ?aF ?aO ?aB ?aS ?aL ?_; (case aP => exact rfl); (case aB => exact below_step HB.out HB5.out); (case aF => exact (fun _ _ => trivial)); (case aO => exact Kd.R_below HO.out HB5.out); (case aS => exact below_size (below_step HB.out HB5.out)); (case aL => have := HL.out; omega); intro v21 w21 ho hb hg' hat; have HO2 := Aside0.mk ho; have HB2 := Aside0.mk hb; have HK2 := Aside0.mk (blk_grown (blk_below HK.out HB5.out) hg' (Kd.R_ne HO.out HK.out (by decide))); clear ho hb hg' hat))
          go_roundg (n - (j + 1))
          case measure => omega
          case rel =>
            exact ⟨j + 1, by omega, by omega, by go_num, ⟨by rw [HE.out]; exact HO2.out⟩, HK2, HB2⟩
      · have hltz : ¬ (j : Int) < (n : Int) := by omega
        obtain rfl : j = n := by omega
        go_wp2
        go_ret
        exact ⟨_, rfl, HO.out, HB.out⟩
end Go.Proofs.YtnalfnoebhmijaaDoor.Pr
