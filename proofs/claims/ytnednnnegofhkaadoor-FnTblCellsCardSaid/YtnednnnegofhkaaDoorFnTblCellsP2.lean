/- A part of what the claim of 'FnTblCells' leans on. -/
import Derived.Test.YtnednnnegofhkaaDoorFnTblCellsP0
import Derived.Test.YtnednnnegofhkaaDoorFnTblCellsP1
import Derived.Test.YtnednnnegofhkaaDoorFnTblCellsPr19
import Derived.Laws.EntriesVeiled
namespace Go.Proofs.YtnednnnegofhkaaDoor.Pr
open Go.RowKit Go.Proofs.YtnednnnegofhkaaDoorW.PrintWords Go.Proofs.YtnednnnegofhkaaDoorW.PrintLast Go.Proofs.YtnednnnegofhkaaDoorW.PrintMore
attribute [local go_sem] max2_int min2_int max_two min_two max_three min_three max_four min_four
set_option linter.unusedVariables false
set_option linter.unusedSimpArgs false
def spec_l20Open.f (l0 : List Int) : Option (List Int × Int) := if (l0.length : Int) > 2000 then (if 2000 ≤ (l0.length : Int) then (some (l0.take 2000, 0)) else (none)) else (some (l0, 0))
set_option maxHeartbeats 8000000 in
set_option maxRecDepth 100000 in
theorem spec_l20Open.calls (A0 : Option Addr) (c0 : Nat) (l0 : List Int) (r1 : List Int) (r2 : Int) (w0 w : World) (hB : Below w0.heap.size w0 w) (hr0 : Kd.C (Kd.int .u8) w0 A0 l0.length l0) (hc0 : l0.length ≤ c0) (h : spec_l20Open.f l0 = some (r1, r2)) :
  Calls Tryd.prog 20 #[.slice A0 l0.length c0] w fun e w' => ∃ g_ : Nat, e = .returned (.pointer (some ⟨g_, 0, none⟩)) ∧ IsS71 w0 w' g_ r1 r2 ∧ Below w0.heap.size w0 w' ∧ Below w.heap.size w w' := by
 have hu71 := Tryd.underlying71;have HR0 := Aside0.mk hr0;have HC0 := Aside0.mk hc0;clear hr0 hc0;have HBW := Aside0.mk (Below.refl w.heap.size w);have HW0 := Aside0.mk hB.size;have HB := Aside0.mk hB;clear hB;have H := h;unfold spec_l20Open.f at H;clear h;by_cases c2 : (l0.length : Int) > 2000;(·rw [if_pos c2] at H;have am : decide (2000 < (l0.length : Int)) = true := decide_eq_true c2;have al : decide (2000 < l0.length) = true := decide_eq_true (by omega);clear c2;by_cases c3 : 2000 ≤ (l0.length : Int);(·rw [if_pos c3] at H;have c3b0 := eq_true c3;have c3b1 : decide (2000 ≤ (l0.length : Int)) = true := decide_eq_true c3;clear c3;simp only [Option.some.injEq, Prod.mk.injEq] at H;obtain ⟨rfl, rfl⟩ := H;obtain ⟨i04, ae, _, af, _⟩ := info_parts info5;obtain ⟨hcut4, hA4, hC4⟩ := print_take_of (P := Tryd.prog) (Value.int .u8) 0 22 5 .i64 Tryd.underlying22 ae af A0 c0 l0 2000 (by omega) (of_decide_eq_true (by first | (with_reducible assumption) | assumption)) HC0.out;have aj := Aside0.mk (Kd.C_of_reads (h1 := fun _ => rfl) (hA4 _ (Kd.reads_of_C HR0.out)));have HC359 := Aside0.mk hC4;clear hA4 hC4 ae af;go_enter Tryd.func20, Tryd.ntmps20;(go_wp2_with (first | ((with_reducible refine gate_dst (N := 10) rfl ?_); refine bx_ 10 #[.slice A0 (l0.take 2000).length c0, .int .i64 0] 71 ?_; intro aa hg w5 hbox hb; have n0_ := Aside0.mk (below_step HBW.out hb); have n1_ := Aside0.mk (below_step (bl_ HB.out) hb); have n2_ := Aside0.mk (hbox); have n3_ := Aside0.mk ((sz_ (below_size (bl_ HBW.out)) hg : w.heap.size ≤ aa)); have n4_ := Aside0.mk ((Nat.le_trans HW0.out (sz_ (below_size (bl_ HBW.out)) hg : w.heap.size ≤ aa) : w0.heap.size ≤ aa)); clear HBW; have HBW := n0_; replace HB := n1_; have ak := n2_; have ag := n3_; have ac := n4_; clear n0_ n1_ n2_ n3_ n4_; clear hb hbox hg)));go_ret;exact ⟨_, rfl, (show IsS71 w0 _ aa (l0.take 2000) 0 from ⟨_, _, by (with_reducible repeat (first | apply blk_drewN | apply blk_drew | apply blk_alloc)); exact ak.out, ac.out, aj.out⟩), bl_ HB.out, bl_ HBW.out⟩);rw [if_neg c3] at H;exact absurd H (by simp))
 rw [if_neg c2] at H;have am : decide (2000 < (l0.length : Int)) = false := decide_eq_false c2;have al : decide (2000 < l0.length) = false := decide_eq_false (by omega);clear c2;simp only [Option.some.injEq, Prod.mk.injEq] at H;obtain ⟨rfl, rfl⟩ := H;go_enter Tryd.func20, Tryd.ntmps20;(go_wp2_with (first | ((with_reducible refine gate_dst (N := 10) rfl ?_); refine bx_ 10 #[.slice A0 l0.length c0, .int .i64 0] 71 ?_; intro ab hg w6 hbox hb; have n0_ := Aside0.mk (below_step HBW.out hb); have n1_ := Aside0.mk (below_step (bl_ HB.out) hb); have n2_ := Aside0.mk (hbox); have n3_ := Aside0.mk ((sz_ (below_size (bl_ HBW.out)) hg : w.heap.size ≤ ab)); have n4_ := Aside0.mk ((Nat.le_trans HW0.out (sz_ (below_size (bl_ HBW.out)) hg : w.heap.size ≤ ab) : w0.heap.size ≤ ab)); clear HBW; have HBW := n0_; replace HB := n1_; have ah := n2_; have ai := n3_; have ad := n4_; clear n0_ n1_ n2_ n3_ n4_; clear hb hbox hg)));go_ret;exact ⟨_, rfl, (show IsS71 w0 _ ab l0 0 from ⟨_, _, by (with_reducible repeat (first | apply blk_drewN | apply blk_drew | apply blk_alloc)); exact ah.out, ad.out, HR0.out⟩), bl_ HB.out, bl_ HBW.out⟩
end Go.Proofs.YtnednnnegofhkaaDoor.Pr
namespace Go.Proofs.YtnednnnegofhkaaDoor.Pr
open Go.RowKit Go.Proofs.YtnednnnegofhkaaDoorW.PrintWords Go.Proofs.YtnednnnegofhkaaDoorW.PrintLast Go.Proofs.YtnednnnegofhkaaDoorW.PrintMore
attribute [local go_sem] max2_int min2_int max_two min_two max_three min_three max_four min_four
set_option linter.unusedVariables false
set_option linter.unusedSimpArgs false
def spec_DrawTblCells.f (k : Nat) (l0 : List Int) : Option ((List (S29)) × Int × Int × (List (S32)) × Int) := (spec_l20Open.f l0).bind fun bt475 => ((spec_l20AnyTable.f k bt475.1 bt475.2 8).bind fun bt478 => (some (bt478.1, bt478.2.1, bt478.2.2.1, bt478.2.2.2.1, bt478.2.2.2.2.1)))
theorem bj14_ {b : Nat} {w W W' : World} (h : Below b w W) (e : Below b w W → Below b w W' := by intro h_; repeat (first | (with_reducible first | exact h_ | apply below_alloc | apply pw_below_drewN | apply below_drew1 | refine below_set ?_ (Aside0.out (by assumption)) | refine below_set ?_ (IsS71.ge (Aside0.out (by assumption)))) | exact h_)) : Below b w W' := e h
theorem is14_ {p q : Prop} (h : p) (e : p → q := by intro h_; repeat (first | (with_reducible first | exact h_ | apply IsS71.alloc | apply IsS71.drew | apply IsS71.drewN | apply IsS71.set_1 | refine IsS71.far ?_ (Aside0.out (by assumption)) _) | exact h_)) : q := e h
set_option maxHeartbeats 8000000 in
set_option maxRecDepth 100000 in
theorem spec_DrawTblCells.calls (k : Nat) (A0 : Option Addr) (c0 : Nat) (l0 : List Int) (r1 : List (S29)) (r2 : Int) (r3 : Int) (r4 : List (S32)) (r5 : Int) (w : World) (hr0 : Kd.C (Kd.int .u8) w A0 l0.length l0) (hc0 : l0.length ≤ c0) (h : spec_DrawTblCells.f k l0 = some (r1, r2, r3, r4, r5)) :
  Calls Tryd.prog 14 #[.slice A0 l0.length c0] w fun e w' => ∃ v0_ v3_ : Value, e = .returned (.agg #[v0_, .int .i64 r2, .int .i64 r3, v3_, .int .i64 r5]) ∧ Kd.R k29 29 w' w.heap.size (fun _ => True) v0_ r1 ∧ Kd.S k32 32 w' w.heap.size (fun _ => True) v3_ r4 ∧ Below w.heap.size w w' := by
 have hu26 := Tryd.underlying26;have HR0 := Aside0.mk hr0;have HC0 := Aside0.mk hc0;clear hr0 hc0;have HB := Aside0.mk (Below.refl w.heap.size w);have H := h;unfold spec_DrawTblCells.f at H;clear h;obtain ⟨⟨aq, ar⟩, A2, H⟩ := ob_ H;(try dsimp only at H);obtain ⟨⟨ad, ae, ag, aj, ak, au⟩, A3, H⟩ := ob_ H;(try dsimp only at H);simp only [Option.some.injEq, Prod.mk.injEq] at H;obtain ⟨rfl, rfl, rfl, rfl, rfl⟩ := H;go_enter Tryd.func14, Tryd.ntmps14
 go_wp2_with (first | ((with_reducible refine gate_dst (N := 2) rfl ?_); refine bx_ 2 #[.slice none 0 0, .int .i64 0, .int .i64 0, .slice none 0 0, .int .i64 0] 26 ?_; intro ab hg w4 hbox hb; have n0_ := Aside0.mk (below_step (bl_ HB.out) hb); have n1_ := Aside0.mk (hbox); have n2_ := Aside0.mk ((sz_ (below_size (bl_ HB.out)) hg : w.heap.size ≤ ab)); have n3_ := Aside0.mk n2_.out; replace HB := n0_; have aa := n1_; have GW474 := n2_; have af := n3_; clear n0_ n1_ n2_ n3_; clear hb hbox hg) | ((with_reducible refine gate_callee (f := 20) rfl ?_); refine gl_ (some 4) Tryd.func20 #[.slice A0 l0.length c0] ?_; (with_reducible refine (spec_l20Open.calls _ _ l0 aq ar w _ ?side1 ?side2 ?side3 A2.out).mono ?_); (case side1 => exact bl_ HB.out); (case side2 => exact HR0.out); (case side3 => exact HC0.out); rintro e w5 ⟨ap, rfl, hi, hb, hb2⟩; refine ⟨_, rfl, ?_⟩; have n0_ := Aside0.mk (blk_below (g := ab) (kb_ aa.out) hb2); have n1_ := Aside0.mk (hb); have n2_ := Aside0.mk (hi); have n3_ := Aside0.mk (IsS71.ne_blk hi (blk_below (g := ab) (kb_ aa.out) hb2) (by decide)); have n4_ := Aside0.mk (Ne.symm (IsS71.ne_blk hi (blk_below (g := ab) (kb_ aa.out) hb2) (by decide))); replace aa := n0_; replace HB := n1_; have ac := n2_; have ai := n3_; have ah := n4_; clear n0_ n1_ n2_ n3_ n4_; (try clear hb hk hi)) | ((with_reducible refine gate_callee (f := 19) rfl ?_); refine gl_ (some 5) Tryd.func19 #[.pointer (some ⟨ap, 0, none⟩), .int .i64 8] ?_; (with_reducible refine (spec_l20AnyTable.calls k ap aq ar 8 ad ae ag aj ak au w _ ?side1 ?side2 A3.out).mono ?_); (case side1 => exact is14_ ac.out); (case side2 => exact bj14_ HB.out); rintro e w6 ⟨v479, v484, rfl, ho0, ho1, hi, hb, hk⟩; refine ⟨_, rfl, ?_⟩; have n0_ := Aside0.mk (KeepBut.blk hk (g' := ab) (kb_ aa.out) ah.out (by simp)); have n1_ := Aside0.mk (Kd.R_lower ho0 (below_size (bj14_ HB.out))); have n2_ := Aside0.mk (Kd.S_lower ho1 (below_size (bj14_ HB.out))); have n3_ := Aside0.mk (hb); have n4_ := Aside0.mk (hi); replace aa := n0_; have ao := n1_; have an := n2_; replace HB := n3_; replace ac := n4_; clear n0_ n1_ n2_ n3_ n4_; (try clear hb hk hi); (try clear ho0); (try clear ho1); obtain ⟨Ao7, co7, eo7⟩ := Kd.R_slice ao.out; subst eo7; have hnb8 := ah.out; have hnc8 := ai.out; have aB := c5_ aa.out; obtain ⟨al, am, av⟩ := Kd.S_slice an.out; subst av))
 refine bodyPost_ret (results_cell_row rfl _ _ ab 26 #[.slice Ao7 ad.length co7, .int .i64 ae, .int .i64 ag, .slice al aj.length am, .int .i64 ak] (0, 0) _ rfl (kf_ aa.out) Tryd.underlying26 rfl (by kernel_rfl)) rfl ?_;exact ⟨_, _, by first | rfl | (simp [errW_none, errW_some] <;> rfl) | (simp [*, errW_none, errW_some] <;> rfl), by (with_reducible repeat (first | apply Kd.R_alloc | apply Kd.R_drewN | apply Kd.R_drew)); exact Kd.R_mono (Kd.R_far (p := ⟨ab, 4, none⟩) (Kd.R_far (p := ⟨ab, 3, none⟩) (Kd.R_far (p := ⟨ab, 2, none⟩) (Kd.R_far (p := ⟨ab, 1, none⟩) (Kd.R_far (p := ⟨ab, 0, none⟩) (Kd.R_types ao.out aa.out (by decide)) (fun _ hk => hk.2) (.slice Ao7 ad.length co7)) (fun _ hk => hk.2) (.int .i64 ae)) (fun _ hk => hk.2) (.int .i64 ag)) (fun _ hk => hk.2) (.slice al aj.length am)) (fun _ hk => hk.2) (.int .i64 ak)) (fun _ hk => trivial), by (with_reducible repeat (first | apply Kd.S_alloc | apply Kd.S_drewN | apply Kd.S_drew)); exact Kd.S_mono (Kd.S_far (p := ⟨ab, 4, none⟩) (Kd.S_far (p := ⟨ab, 3, none⟩) (Kd.S_far (p := ⟨ab, 2, none⟩) (Kd.S_far (p := ⟨ab, 1, none⟩) (Kd.S_far (p := ⟨ab, 0, none⟩) (Kd.S_types an.out aa.out (by decide)) (fun _ hk => hk.2) (.slice Ao7 ad.length co7)) (fun _ hk => hk.2) (.int .i64 ae)) (fun _ hk => hk.2) (.int .i64 ag)) (fun _ hk => hk.2) (.slice al aj.length am)) (fun _ hk => hk.2) (.int .i64 ak)) (fun _ hk => trivial), bj14_ HB.out⟩
end Go.Proofs.YtnednnnegofhkaaDoor.Pr
namespace Go.Proofs.YtnednnnegofhkaaDoor.Pr
open Go.RowKit Go.Proofs.YtnednnnegofhkaaDoorW.PrintWords Go.Proofs.YtnednnnegofhkaaDoorW.PrintLast Go.Proofs.YtnednnnegofhkaaDoorW.PrintMore
attribute [local go_sem] max2_int min2_int max_two min_two max_three min_three max_four min_four
set_option linter.unusedVariables false
set_option linter.unusedSimpArgs false
def impl_in.f (a0 : Int) (a1 : Int) (a2 : Int) : Option (Bool) := if a0 ≥ a1 then (some (decide (a0 ≤ a2))) else (some false)
set_option maxHeartbeats 8000000 in
set_option maxRecDepth 100000 in
theorem impl_in.calls (a0 : Int) (a1 : Int) (a2 : Int) (r : Bool) (w : World) (h : impl_in.f a0 a1 a2 = some r) :
    Calls Tryd.prog 22 #[.int .i64 a0, .int .i64 a1, .int .i64 a2] w fun e w' => e = .returned (.bool r) ∧ Drawn0 w w' := by
  have H : (if a0 ≥ a1 then (some (decide (a0 ≤ a2))) else (some false)) = some r := h
  clear h
  by_cases c4 : a0 ≥ a1
  · rw [if_pos c4] at H
    have c4b0 : decide (a1 ≤ a0) = true := decide_eq_true c4
    clear c4
    obtain rfl := Option.some.inj H
    go_enter Tryd.func22, Tryd.ntmps22
    go_wp2
    go_ret
    exact ⟨by first | rfl | (simp; done) | (simp [*]; done), by repeat (first | exact Drawn0.refl _ | apply Drawn0.step)⟩
  · rw [if_neg c4] at H
    have c4b0 : decide (a1 ≤ a0) = false := decide_eq_false c4
    clear c4
    obtain rfl := Option.some.inj H
    go_enter Tryd.func22, Tryd.ntmps22
    go_wp2
    go_ret
    exact ⟨by first | rfl | (simp; done) | (simp [*]; done), by repeat (first | exact Drawn0.refl _ | apply Drawn0.step)⟩
end Go.Proofs.YtnednnnegofhkaaDoor.Pr
namespace Go.Proofs.YtnednnnegofhkaaDoor.Pr
open Go.RowKit Go.Proofs.YtnednnnegofhkaaDoorW.PrintWords Go.Proofs.YtnednnnegofhkaaDoorW.PrintLast Go.Proofs.YtnednnnegofhkaaDoorW.PrintMore
attribute [local go_sem] max2_int min2_int max_two min_two max_three min_three max_four min_four
set_option linter.unusedVariables false
set_option linter.unusedSimpArgs false
def impl_BrdLine_drawn.f (a0_0 : Int) (a0_1 : Int) : Option (Bool) := (impl_in.f a0_0 1 3).bind fun t385 => (some t385)
set_option maxHeartbeats 8000000 in
set_option maxRecDepth 100000 in
theorem impl_BrdLine_drawn.calls (a0_0 : Int) (a0_1 : Int) (r : Bool) (w : World) (h : impl_BrdLine_drawn.f a0_0 a0_1 = some r) :
    Calls Tryd.prog 44 #[.agg #[.int .i64 a0_0, .int .i64 a0_1]] w fun e w' => e = .returned (.bool r) ∧ Below w.heap.size w w' := by
  have hu35 := Tryd.underlying35
  have HB := Aside0.mk (Below.refl w.heap.size w)
  have H : ((impl_in.f a0_0 1 3).bind fun t385 => (some t385)) = some r := h
  clear h
  replace H := Option.bind_eq_some_iff.mp H
  obtain ⟨t385, A20, H⟩ := H
  replace H : (some t385) = some r := H
  have A2 := Aside0.mk A20
  clear A20
  obtain rfl := Option.some.inj H
  go_enter Tryd.func44, Tryd.ntmps44
  go_wp2_with (first | ((with_reducible refine gate_dst (N := 1) rfl ?_); refine box_event ?hg (N := 1) ?hd (cs := #[.int .i64 a0_0, .int .i64 a0_1]) (t := 35) ?hr ?_; (case hd => rfl); (case hg => rfl); (case hr => first | (go_simp; done) | (go_simp; rfl)); intro gb384 hg w3 hbox hb; have n0_ := Aside0.mk (below_step (by repeat (first | (with_reducible first | exact HB.out | apply below_alloc | apply pw_below_drewN | apply below_drew1) | exact HB.out)) hb); have n1_ := Aside0.mk (hbox); have n2_ := Aside0.mk ((by rw [hg]; exact (below_size (by repeat (first | (with_reducible first | exact HB.out | apply below_alloc | apply pw_below_drewN | apply below_drew1) | exact HB.out))) : w.heap.size ≤ gb384)); have n3_ := Aside0.mk ((by rw [hg]; exact (below_size (by repeat (first | (with_reducible first | exact HB.out | apply below_alloc | apply pw_below_drewN | apply below_drew1) | exact HB.out))) : w.heap.size ≤ gb384)); clear HB; have HB := n0_; have BK384 := n1_; have GW384 := n2_; have GE384 := n3_; clear n0_ n1_ n2_ n3_; clear hb hbox hg; have hcz4_0 : w3.cell? ⟨gb384, 0, none⟩ = some (.int .i64 a0_0) := (blk_cell BK384.out 0).trans rfl; have hcz4_1 : w3.cell? ⟨gb384, 1, none⟩ = some (.int .i64 a0_1) := (blk_cell BK384.out 1).trans rfl; have hfz4_0 := blk_frozen BK384.out 0; have hfz4_1 := blk_frozen BK384.out 1) | ((with_reducible refine gate_callee (f := 22) rfl ?_); refine goesL_ (some 5) rfl rfl Tryd.func22 (by kernel_rfl) rfl #[.int .i64 a0_0, .int .i64 1, .int .i64 3] rfl (by (try simp only [List.map_toArray, List.map_cons, List.map_nil]); first | done | rfl | (simp only [List.length_drop, List.length_take]; rfl)) ?_; (with_reducible refine (impl_in.calls a0_0 1 3 t385 _ A2.out).mono ?_); rintro e w' ⟨rfl, ⟨nd, rfl⟩⟩; refine ⟨_, rfl, ?_⟩))
  go_ret
  exact ⟨by first | rfl | (simp [errW_none, errW_some] <;> rfl) | (simp [*, errW_none, errW_some] <;> rfl), by repeat (first | (with_reducible first | exact HB.out | apply below_alloc | apply pw_below_drewN | apply below_drew1 | refine below_set ?_ GE384.out) | exact HB.out)⟩
end Go.Proofs.YtnednnnegofhkaaDoor.Pr
namespace Go.Proofs.YtnednnnegofhkaaDoor.Pr
open Go.RowKit Go.Proofs.YtnednnnegofhkaaDoorW.PrintWords Go.Proofs.YtnednnnegofhkaaDoorW.PrintLast Go.Proofs.YtnednnnegofhkaaDoorW.PrintMore
attribute [local go_sem] max2_int min2_int max_two min_two max_three min_three max_four min_four
set_option linter.unusedVariables false
set_option linter.unusedSimpArgs false
def impl_BrdOk.f (a0_0 : Int) (a0_1 : Int) : Option (Bool) := (impl_BrdLine_drawn.f a0_0 a0_1).bind fun t387 => (if t387 = true then ((impl_in.f a0_1 1 3).bind fun t388 => (some t388)) else (if a0_0 = 0 then (some (a0_1 == 0)) else (if a0_0 = 4 then (some (a0_1 == 0)) else (some false))))
abbrev qa23 := @Aside0.mk
set_option maxHeartbeats 8000000 in
set_option maxRecDepth 100000 in
theorem impl_BrdOk.calls (a0_0 : Int) (a0_1 : Int) (r : Bool) (w : World) (h : impl_BrdOk.f a0_0 a0_1 = some r) :
  Calls Tryd.prog 23 #[.agg #[.int .i64 a0_0, .int .i64 a0_1]] w fun e w' => e = .returned (.bool r) ∧ Below w.heap.size w w' := by
 have hu35 := Tryd.underlying35;have HB := qa23 (Below.refl w.heap.size w);have H := h;unfold impl_BrdOk.f at H;clear h;obtain ⟨t387, A2, H⟩ := ob_ H;(try dsimp only at H);by_cases c3 : t387 = true
 (·subst c3;(have H1 : ((impl_in.f a0_1 1 3).bind fun t388 => (some t388)) = some r := by rw [if_pos rfl] at H; exact H);clear H;have H := H1;clear H1;obtain ⟨t388, A4, H⟩ := ob_ H;(try dsimp only at H);obtain rfl := Option.some.inj H;go_enter Tryd.func23, Tryd.ntmps23;(go_wp2_with (first | ((with_reducible refine gate_dst (N := 1) rfl ?_); refine bx_ 1 #[.int .i64 a0_0, .int .i64 a0_1] 35 ?_; intro ac hg w5 hbox hb; have n0_ := qa23 (below_step (bl_ HB.out) hb); have n1_ := qa23 (hbox); have n2_ := qa23 ((sz_ (below_size (bl_ HB.out)) hg : w.heap.size ≤ ac)); have n3_ := qa23 n2_.out; replace HB := n0_; have aa := n1_; have ad := n2_; have ab := n3_; clear n0_ n1_ n2_ n3_; clear hb hbox hg; have aL := c2_ aa.out) | ((with_reducible refine gate_callee (f := 44) rfl ?_); refine gl_ (some 4) Tryd.func44 #[.agg #[.int .i64 a0_0, .int .i64 a0_1]] ?_; (with_reducible refine (impl_BrdLine_drawn.calls a0_0 a0_1 true _ A2.out).mono ?_); rintro e w7 ⟨rfl, hb⟩; refine ⟨_, rfl, ?_⟩; have n0_ := qa23 (blk_below (g := ac) (kb_ aa.out) hb); have n1_ := qa23 (below_step (bl_ HB.out) hb); replace aa := n0_; replace HB := n1_; clear n0_ n1_; (try clear hb hk hi); have aO := c2_ aa.out) | ((with_reducible refine gate_callee (f := 22) rfl ?_); refine gl_ (some 7) Tryd.func22 #[.int .i64 a0_1, .int .i64 1, .int .i64 3] ?_; (with_reducible refine (impl_in.calls a0_1 1 3 t388 _ A4.out).mono ?_); rintro e w' ⟨rfl, ⟨nd, rfl⟩⟩; refine ⟨_, rfl, ?_⟩)));go_ret;exact ⟨by first | rfl | (simp [errW_none, errW_some] <;> rfl) | (simp [*, errW_none, errW_some] <;> rfl), bl_ HB.out⟩)
 replace c3 := Bool.eq_false_iff.mpr c3;subst c3;(have H1 : (if a0_0 = 0 then (some (a0_1 == 0)) else (if a0_0 = 4 then (some (a0_1 == 0)) else (some false))) = some r := by rw [if_neg (show ¬ (false = true) by decide)] at H; exact H);clear H;have H := H1;clear H1;by_cases c9 : a0_0 = 0;(·rw [if_pos c9] at H;have ah : (a0_0 == 0) = true := beq_iff_eq.mpr c9;have ag : (a0_0 != 0) = false := bne_eq_false_iff_eq.mpr c9;clear c9;obtain rfl := Option.some.inj H;go_enter Tryd.func23, Tryd.ntmps23;(go_wp2_with (first | ((with_reducible refine gate_dst (N := 1) rfl ?_); refine bx_ 1 #[.int .i64 a0_0, .int .i64 a0_1] 35 ?_; intro ac hg w10 hbox hb; have n0_ := qa23 (below_step (bl_ HB.out) hb); have n1_ := qa23 (hbox); have n2_ := qa23 ((sz_ (below_size (bl_ HB.out)) hg : w.heap.size ≤ ac)); have n3_ := qa23 n2_.out; replace HB := n0_; have aa := n1_; have ad := n2_; have ab := n3_; clear n0_ n1_ n2_ n3_; clear hb hbox hg; have ap := c2_ aa.out) | ((with_reducible refine gate_callee (f := 44) rfl ?_); refine gl_ (some 4) Tryd.func44 #[.agg #[.int .i64 a0_0, .int .i64 a0_1]] ?_; (with_reducible refine (impl_BrdLine_drawn.calls a0_0 a0_1 false _ A2.out).mono ?_); rintro e w12 ⟨rfl, hb⟩; refine ⟨_, rfl, ?_⟩; have n0_ := qa23 (blk_below (g := ac) (kb_ aa.out) hb); have n1_ := qa23 (below_step (bl_ HB.out) hb); replace aa := n0_; replace HB := n1_; clear n0_ n1_; (try clear hb hk hi); have ay := c2_ aa.out)));go_ret;exact ⟨by first | rfl | (simp [errW_none, errW_some] <;> rfl) | (simp [*, errW_none, errW_some] <;> rfl), bl_ HB.out⟩)
 rw [if_neg c9] at H;have ah : (a0_0 == 0) = false := beq_eq_false_iff_ne.mpr c9;have ag : (a0_0 != 0) = true := bne_iff_ne.mpr c9;by_cases c14 : a0_0 = 4;(·rw [if_pos c14] at H;have af : (a0_0 == 4) = true := beq_iff_eq.mpr c14;have ae : (a0_0 != 4) = false := bne_eq_false_iff_eq.mpr c14;clear c14;obtain rfl := Option.some.inj H;go_enter Tryd.func23, Tryd.ntmps23;(go_wp2_with (first | ((with_reducible refine gate_dst (N := 1) rfl ?_); refine bx_ 1 #[.int .i64 a0_0, .int .i64 a0_1] 35 ?_; intro ac hg w15 hbox hb; have n0_ := qa23 (below_step (bl_ HB.out) hb); have n1_ := qa23 (hbox); have n2_ := qa23 ((sz_ (below_size (bl_ HB.out)) hg : w.heap.size ≤ ac)); have n3_ := qa23 n2_.out; replace HB := n0_; have aa := n1_; have ad := n2_; have ab := n3_; clear n0_ n1_ n2_ n3_; clear hb hbox hg; have aD := c2_ aa.out) | ((with_reducible refine gate_callee (f := 44) rfl ?_); refine gl_ (some 4) Tryd.func44 #[.agg #[.int .i64 a0_0, .int .i64 a0_1]] ?_; (with_reducible refine (impl_BrdLine_drawn.calls a0_0 a0_1 false _ A2.out).mono ?_); rintro e w17 ⟨rfl, hb⟩; refine ⟨_, rfl, ?_⟩; have n0_ := qa23 (blk_below (g := ac) (kb_ aa.out) hb); have n1_ := qa23 (below_step (bl_ HB.out) hb); replace aa := n0_; replace HB := n1_; clear n0_ n1_; (try clear hb hk hi); have al := c2_ aa.out)));go_ret;exact ⟨by first | rfl | (simp [errW_none, errW_some] <;> rfl) | (simp [*, errW_none, errW_some] <;> rfl), bl_ HB.out⟩)
 rw [if_neg c14] at H;have af : (a0_0 == 4) = false := beq_eq_false_iff_ne.mpr c14;have ae : (a0_0 != 4) = true := bne_iff_ne.mpr c14;obtain rfl := Option.some.inj H;go_enter Tryd.func23, Tryd.ntmps23;(go_wp2_with (first | ((with_reducible refine gate_dst (N := 1) rfl ?_); refine bx_ 1 #[.int .i64 a0_0, .int .i64 a0_1] 35 ?_; intro ac hg w19 hbox hb; have n0_ := qa23 (below_step (bl_ HB.out) hb); have n1_ := qa23 (hbox); have n2_ := qa23 ((sz_ (below_size (bl_ HB.out)) hg : w.heap.size ≤ ac)); have n3_ := qa23 n2_.out; replace HB := n0_; have aa := n1_; have ad := n2_; have ab := n3_; clear n0_ n1_ n2_ n3_; clear hb hbox hg; have aw := c2_ aa.out) | ((with_reducible refine gate_callee (f := 44) rfl ?_); refine gl_ (some 4) Tryd.func44 #[.agg #[.int .i64 a0_0, .int .i64 a0_1]] ?_; (with_reducible refine (impl_BrdLine_drawn.calls a0_0 a0_1 false _ A2.out).mono ?_); rintro e w21 ⟨rfl, hb⟩; refine ⟨_, rfl, ?_⟩; have n0_ := qa23 (blk_below (g := ac) (kb_ aa.out) hb); have n1_ := qa23 (below_step (bl_ HB.out) hb); replace aa := n0_; replace HB := n1_; clear n0_ n1_; (try clear hb hk hi); have av := c2_ aa.out)));go_ret;exact ⟨by first | rfl | (simp [errW_none, errW_some] <;> rfl) | (simp [*, errW_none, errW_some] <;> rfl), bl_ HB.out⟩
end Go.Proofs.YtnednnnegofhkaaDoor.Pr
namespace Go.Proofs.YtnednnnegofhkaaDoor.Pr
open Go.RowKit Go.Proofs.YtnednnnegofhkaaDoorW.PrintWords Go.Proofs.YtnednnnegofhkaaDoorW.PrintLast Go.Proofs.YtnednnnegofhkaaDoorW.PrintMore
attribute [local go_sem] max2_int min2_int max_two min_two max_three min_three max_four min_four
set_option linter.unusedVariables false
set_option linter.unusedSimpArgs false
def impl_CellOk.f (k : Nat) (a0_0 : ByteArray) (a0_1 : Int) (a0_2 : Int) (a0_3 : Int) (a0_4 : Int) (a0_5 : Int) (a0_6 : Int) (a0_7 : Int) (a0_8 : Int) (a0_9 : Int) (a0_10 : Int) : Option (Bool) := (impl_TxtOk.f k a0_0).bind fun t390 => (if t390 = true then ((impl_in.f a0_1 1 4).bind fun t391 => (if t391 = true then ((impl_in.f a0_2 1 4).bind fun t392 => (if t392 = true then ((impl_BrdOk.f a0_3 a0_4).bind fun t393 => (if t393 = true then ((impl_BrdOk.f a0_5 a0_6).bind fun t394 => (if t394 = true then ((impl_BrdOk.f a0_7 a0_8).bind fun t395 => (if t395 = true then ((impl_BrdOk.f a0_9 a0_10).bind fun t396 => (some t396)) else (some false))) else (some false))) else (some false))) else (some false))) else (some false))) else (some false))
abbrev qb7 := @Aside0.mk
abbrev qf7 := @below_step
set_option maxHeartbeats 8000000 in
set_option maxRecDepth 100000 in
theorem impl_CellOk.calls (k : Nat) (a0_0 : ByteArray) (a0_1 : Int) (a0_2 : Int) (a0_3 : Int) (a0_4 : Int) (a0_5 : Int) (a0_6 : Int) (a0_7 : Int) (a0_8 : Int) (a0_9 : Int) (a0_10 : Int) (r : Bool) (w : World) (h : impl_CellOk.f k a0_0 a0_1 a0_2 a0_3 a0_4 a0_5 a0_6 a0_7 a0_8 a0_9 a0_10 = some r) :
  Calls Tryd.prog 7 #[.agg #[.string a0_0, .int .i64 a0_1, .int .i64 a0_2, .int .i64 a0_3, .int .i64 a0_4, .int .i64 a0_5, .int .i64 a0_6, .int .i64 a0_7, .int .i64 a0_8, .int .i64 a0_9, .int .i64 a0_10]] w fun e w' => e = .returned (.bool r) ∧ Below w.heap.size w w' := by
 have hu37 := Tryd.underlying37;have hu35 := Tryd.underlying35;have HB := qb7 (Below.refl w.heap.size w);have H := h;unfold impl_CellOk.f at H;clear h;obtain ⟨t390, A2, H⟩ := ob_ H;(try dsimp only at H);by_cases c3 : t390 = true
 ·subst c3;(have H1 : ((impl_in.f a0_1 1 4).bind fun t391 => (if t391 = true then ((impl_in.f a0_2 1 4).bind fun t392 => (if t392 = true then ((impl_BrdOk.f a0_3 a0_4).bind fun t393 => (if t393 = true then ((impl_BrdOk.f a0_5 a0_6).bind fun t394 => (if t394 = true then ((impl_BrdOk.f a0_7 a0_8).bind fun t395 => (if t395 = true then ((impl_BrdOk.f a0_9 a0_10).bind fun t396 => (some t396)) else (some false))) else (some false))) else (some false))) else (some false))) else (some false))) = some r := by rw [if_pos rfl] at H; exact H);clear H;have H := H1;clear H1;obtain ⟨t391, A4, H⟩ := ob_ H;(try dsimp only at H);by_cases c5 : t391 = true
  ·subst c5;(have H1 : ((impl_in.f a0_2 1 4).bind fun t392 => (if t392 = true then ((impl_BrdOk.f a0_3 a0_4).bind fun t393 => (if t393 = true then ((impl_BrdOk.f a0_5 a0_6).bind fun t394 => (if t394 = true then ((impl_BrdOk.f a0_7 a0_8).bind fun t395 => (if t395 = true then ((impl_BrdOk.f a0_9 a0_10).bind fun t396 => (some t396)) else (some false))) else (some false))) else (some false))) else (some false))) = some r := by rw [if_pos rfl] at H; exact H);clear H;have H := H1;clear H1;obtain ⟨t392, A6, H⟩ := ob_ H;(try dsimp only at H);by_cases c7 : t392 = true
   ·subst c7;(have H1 : ((impl_BrdOk.f a0_3 a0_4).bind fun t393 => (if t393 = true then ((impl_BrdOk.f a0_5 a0_6).bind fun t394 => (if t394 = true then ((impl_BrdOk.f a0_7 a0_8).bind fun t395 => (if t395 = true then ((impl_BrdOk.f a0_9 a0_10).bind fun t396 => (some t396)) else (some false))) else (some false))) else (some false))) = some r := by rw [if_pos rfl] at H; exact H);clear H;have H := H1;clear H1;obtain ⟨t393, A8, H⟩ := ob_ H;(try dsimp only at H);by_cases c9 : t393 = true
    ·subst c9;(have H1 : ((impl_BrdOk.f a0_5 a0_6).bind fun t394 => (if t394 = true then ((impl_BrdOk.f a0_7 a0_8).bind fun t395 => (if t395 = true then ((impl_BrdOk.f a0_9 a0_10).bind fun t396 => (some t396)) else (some false))) else (some false))) = some r := by rw [if_pos rfl] at H; exact H);clear H;have H := H1;clear H1;obtain ⟨t394, A10, H⟩ := ob_ H;(try dsimp only at H);by_cases c11 : t394 = true
     ·subst c11;(have H1 : ((impl_BrdOk.f a0_7 a0_8).bind fun t395 => (if t395 = true then ((impl_BrdOk.f a0_9 a0_10).bind fun t396 => (some t396)) else (some false))) = some r := by rw [if_pos rfl] at H; exact H);clear H;have H := H1;clear H1;obtain ⟨t395, A12, H⟩ := ob_ H;(try dsimp only at H);by_cases c13 : t395 = true
      ·subst c13;(have H1 : ((impl_BrdOk.f a0_9 a0_10).bind fun t396 => (some t396)) = some r := by rw [if_pos rfl] at H; exact H);clear H;have H := H1;clear H1;obtain ⟨t396, A14, H⟩ := ob_ H;(try dsimp only at H);obtain rfl := Option.some.inj H;go_enter Tryd.func7, Tryd.ntmps7
       go_wp2_with (first | ((with_reducible refine gate_dst (N := 1) rfl ?_); refine bx_ 1 #[.string a0_0, .int .i64 a0_1, .int .i64 a0_2, .int .i64 a0_3, .int .i64 a0_4, .int .i64 a0_5, .int .i64 a0_6, .int .i64 a0_7, .int .i64 a0_8, .int .i64 a0_9, .int .i64 a0_10] 37 ?_; intro ab hg w15 hbox hb; have n0_ := qb7 (qf7 (bl_ HB.out) hb); have n1_ := qb7 (hbox); have n2_ := qb7 ((sz_ (below_size (bl_ HB.out)) hg : w.heap.size ≤ ab)); have n3_ := qb7 n2_.out; replace HB := n0_; have aa := n1_; have ad := n2_; have ac := n3_; clear n0_ n1_ n2_ n3_; clear hb hbox hg; have d1 := c11_ aa.out) | ((with_reducible refine gate_callee (f := 21) rfl ?_); refine gl_ (some 5) Tryd.func21 #[.string a0_0] ?_; (with_reducible refine (impl_TxtOk.calls k a0_0 true _ A2.out).mono ?_); rintro e w17 ⟨rfl, hb⟩; refine ⟨_, rfl, ?_⟩; have n0_ := qb7 (blk_below (g := ab) (kb_ aa.out) hb); have n1_ := qb7 (qf7 (bl_ HB.out) hb); replace aa := n0_; replace HB := n1_; clear n0_ n1_; (try clear hb hk hi); have bQ := c11_ aa.out) | (go_at_call 22; (with_reducible refine (impl_in.calls a0_1 1 4 true _ A4.out).mono ?_); rintro e w' ⟨rfl, ⟨nd, rfl⟩⟩) | (go_at_call 22; (with_reducible refine (impl_in.calls a0_2 1 4 true _ A6.out).mono ?_); rintro e w' ⟨rfl, ⟨nd, rfl⟩⟩) | (go_at_call 23; (with_reducible refine (impl_BrdOk.calls a0_3 a0_4 true _ A8.out).mono ?_); rintro e w19 ⟨rfl, hb⟩; have n0_ := qb7 (blk_below (g := ab) (kb_ aa.out) hb); have n1_ := qb7 (qf7 (bl_ HB.out) hb); replace aa := n0_; replace HB := n1_; clear n0_ n1_; (try clear hb hk hi); have bp := c11_ aa.out) | (go_at_call 23; (with_reducible refine (impl_BrdOk.calls a0_5 a0_6 true _ A10.out).mono ?_); rintro e w21 ⟨rfl, hb⟩; have n0_ := qb7 (blk_below (g := ab) (kb_ aa.out) hb); have n1_ := qb7 (qf7 (bl_ HB.out) hb); replace aa := n0_; replace HB := n1_; clear n0_ n1_; (try clear hb hk hi); have g2 := c11_ aa.out) | (go_at_call 23; (with_reducible refine (impl_BrdOk.calls a0_7 a0_8 true _ A12.out).mono ?_); rintro e w23 ⟨rfl, hb⟩; have n0_ := qb7 (blk_below (g := ab) (kb_ aa.out) hb); have n1_ := qb7 (qf7 (bl_ HB.out) hb); replace aa := n0_; replace HB := n1_; clear n0_ n1_; (try clear hb hk hi); have ea := c11_ aa.out) | (go_at_call 23; (with_reducible refine (impl_BrdOk.calls a0_9 a0_10 t396 _ A14.out).mono ?_); rintro e w25 ⟨rfl, hb⟩; have n0_ := qb7 (blk_below (g := ab) (kb_ aa.out) hb); have n1_ := qb7 (qf7 (bl_ HB.out) hb); replace aa := n0_; replace HB := n1_; clear n0_ n1_; (try clear hb hk hi)))
       go_ret;exact ⟨rg_, bl_ HB.out⟩
      replace c13 := Bool.eq_false_iff.mpr c13;subst c13;(have H1 : (some false) = some r := by rw [if_neg (show ¬ (false = true) by decide)] at H; exact H);clear H;have H := H1;clear H1;obtain rfl := Option.some.inj H;go_enter Tryd.func7, Tryd.ntmps7
      go_wp2_with (first | ((with_reducible refine gate_dst (N := 1) rfl ?_); refine bx_ 1 #[.string a0_0, .int .i64 a0_1, .int .i64 a0_2, .int .i64 a0_3, .int .i64 a0_4, .int .i64 a0_5, .int .i64 a0_6, .int .i64 a0_7, .int .i64 a0_8, .int .i64 a0_9, .int .i64 a0_10] 37 ?_; intro ab hg w26 hbox hb; have n0_ := qb7 (qf7 (bl_ HB.out) hb); have n1_ := qb7 (hbox); have n2_ := qb7 ((sz_ (below_size (bl_ HB.out)) hg : w.heap.size ≤ ab)); have n3_ := qb7 n2_.out; replace HB := n0_; have aa := n1_; have ad := n2_; have ac := n3_; clear n0_ n1_ n2_ n3_; clear hb hbox hg; have aV := c11_ aa.out) | ((with_reducible refine gate_callee (f := 21) rfl ?_); refine gl_ (some 5) Tryd.func21 #[.string a0_0] ?_; (with_reducible refine (impl_TxtOk.calls k a0_0 true _ A2.out).mono ?_); rintro e w28 ⟨rfl, hb⟩; refine ⟨_, rfl, ?_⟩; have n0_ := qb7 (blk_below (g := ab) (kb_ aa.out) hb); have n1_ := qb7 (qf7 (bl_ HB.out) hb); replace aa := n0_; replace HB := n1_; clear n0_ n1_; (try clear hb hk hi); have bT := c11_ aa.out) | (go_at_call 22; (with_reducible refine (impl_in.calls a0_1 1 4 true _ A4.out).mono ?_); rintro e w' ⟨rfl, ⟨nd, rfl⟩⟩) | (go_at_call 22; (with_reducible refine (impl_in.calls a0_2 1 4 true _ A6.out).mono ?_); rintro e w' ⟨rfl, ⟨nd, rfl⟩⟩) | (go_at_call 23; (with_reducible refine (impl_BrdOk.calls a0_3 a0_4 true _ A8.out).mono ?_); rintro e w30 ⟨rfl, hb⟩; have n0_ := qb7 (blk_below (g := ab) (kb_ aa.out) hb); have n1_ := qb7 (qf7 (bl_ HB.out) hb); replace aa := n0_; replace HB := n1_; clear n0_ n1_; (try clear hb hk hi); have dE := c11_ aa.out) | (go_at_call 23; (with_reducible refine (impl_BrdOk.calls a0_5 a0_6 true _ A10.out).mono ?_); rintro e w32 ⟨rfl, hb⟩; have n0_ := qb7 (blk_below (g := ab) (kb_ aa.out) hb); have n1_ := qb7 (qf7 (bl_ HB.out) hb); replace aa := n0_; replace HB := n1_; clear n0_ n1_; (try clear hb hk hi); have f4 := c11_ aa.out) | (go_at_call 23; (with_reducible refine (impl_BrdOk.calls a0_7 a0_8 false _ A12.out).mono ?_); rintro e w34 ⟨rfl, hb⟩; have n0_ := qb7 (blk_below (g := ab) (kb_ aa.out) hb); have n1_ := qb7 (qf7 (bl_ HB.out) hb); replace aa := n0_; replace HB := n1_; clear n0_ n1_; (try clear hb hk hi)))
      go_ret;exact ⟨rg_, bl_ HB.out⟩
     replace c11 := Bool.eq_false_iff.mpr c11;subst c11;(have H1 : (some false) = some r := by rw [if_neg (show ¬ (false = true) by decide)] at H; exact H);clear H;have H := H1;clear H1;obtain rfl := Option.some.inj H;go_enter Tryd.func7, Tryd.ntmps7
     go_wp2_with (first | ((with_reducible refine gate_dst (N := 1) rfl ?_); refine bx_ 1 #[.string a0_0, .int .i64 a0_1, .int .i64 a0_2, .int .i64 a0_3, .int .i64 a0_4, .int .i64 a0_5, .int .i64 a0_6, .int .i64 a0_7, .int .i64 a0_8, .int .i64 a0_9, .int .i64 a0_10] 37 ?_; intro ab hg w35 hbox hb; have n0_ := qb7 (qf7 (bl_ HB.out) hb); have n1_ := qb7 (hbox); have n2_ := qb7 ((sz_ (below_size (bl_ HB.out)) hg : w.heap.size ≤ ab)); have n3_ := qb7 n2_.out; replace HB := n0_; have aa := n1_; have ad := n2_; have ac := n3_; clear n0_ n1_ n2_ n3_; clear hb hbox hg; have aZ := c11_ aa.out) | ((with_reducible refine gate_callee (f := 21) rfl ?_); refine gl_ (some 5) Tryd.func21 #[.string a0_0] ?_; (with_reducible refine (impl_TxtOk.calls k a0_0 true _ A2.out).mono ?_); rintro e w37 ⟨rfl, hb⟩; refine ⟨_, rfl, ?_⟩; have n0_ := qb7 (blk_below (g := ab) (kb_ aa.out) hb); have n1_ := qb7 (qf7 (bl_ HB.out) hb); replace aa := n0_; replace HB := n1_; clear n0_ n1_; (try clear hb hk hi); have f9 := c11_ aa.out) | (go_at_call 22; (with_reducible refine (impl_in.calls a0_1 1 4 true _ A4.out).mono ?_); rintro e w' ⟨rfl, ⟨nd, rfl⟩⟩) | (go_at_call 22; (with_reducible refine (impl_in.calls a0_2 1 4 true _ A6.out).mono ?_); rintro e w' ⟨rfl, ⟨nd, rfl⟩⟩) | (go_at_call 23; (with_reducible refine (impl_BrdOk.calls a0_3 a0_4 true _ A8.out).mono ?_); rintro e w39 ⟨rfl, hb⟩; have n0_ := qb7 (blk_below (g := ab) (kb_ aa.out) hb); have n1_ := qb7 (qf7 (bl_ HB.out) hb); replace aa := n0_; replace HB := n1_; clear n0_ n1_; (try clear hb hk hi); have dP := c11_ aa.out) | (go_at_call 23; (with_reducible refine (impl_BrdOk.calls a0_5 a0_6 false _ A10.out).mono ?_); rintro e w41 ⟨rfl, hb⟩; have n0_ := qb7 (blk_below (g := ab) (kb_ aa.out) hb); have n1_ := qb7 (qf7 (bl_ HB.out) hb); replace aa := n0_; replace HB := n1_; clear n0_ n1_; (try clear hb hk hi)))
     go_ret;exact ⟨rg_, bl_ HB.out⟩
    replace c9 := Bool.eq_false_iff.mpr c9;subst c9;(have H1 : (some false) = some r := by rw [if_neg (show ¬ (false = true) by decide)] at H; exact H);clear H;have H := H1;clear H1;obtain rfl := Option.some.inj H;go_enter Tryd.func7, Tryd.ntmps7
    go_wp2_with (first | ((with_reducible refine gate_dst (N := 1) rfl ?_); refine bx_ 1 #[.string a0_0, .int .i64 a0_1, .int .i64 a0_2, .int .i64 a0_3, .int .i64 a0_4, .int .i64 a0_5, .int .i64 a0_6, .int .i64 a0_7, .int .i64 a0_8, .int .i64 a0_9, .int .i64 a0_10] 37 ?_; intro ab hg w42 hbox hb; have n0_ := qb7 (qf7 (bl_ HB.out) hb); have n1_ := qb7 (hbox); have n2_ := qb7 ((sz_ (below_size (bl_ HB.out)) hg : w.heap.size ≤ ab)); have n3_ := qb7 n2_.out; replace HB := n0_; have aa := n1_; have ad := n2_; have ac := n3_; clear n0_ n1_ n2_ n3_; clear hb hbox hg; have dY := c11_ aa.out) | ((with_reducible refine gate_callee (f := 21) rfl ?_); refine gl_ (some 5) Tryd.func21 #[.string a0_0] ?_; (with_reducible refine (impl_TxtOk.calls k a0_0 true _ A2.out).mono ?_); rintro e w44 ⟨rfl, hb⟩; refine ⟨_, rfl, ?_⟩; have n0_ := qb7 (blk_below (g := ab) (kb_ aa.out) hb); have n1_ := qb7 (qf7 (bl_ HB.out) hb); replace aa := n0_; replace HB := n1_; clear n0_ n1_; (try clear hb hk hi); have eF := c11_ aa.out) | (go_at_call 22; (with_reducible refine (impl_in.calls a0_1 1 4 true _ A4.out).mono ?_); rintro e w' ⟨rfl, ⟨nd, rfl⟩⟩) | (go_at_call 22; (with_reducible refine (impl_in.calls a0_2 1 4 true _ A6.out).mono ?_); rintro e w' ⟨rfl, ⟨nd, rfl⟩⟩) | (go_at_call 23; (with_reducible refine (impl_BrdOk.calls a0_3 a0_4 false _ A8.out).mono ?_); rintro e w46 ⟨rfl, hb⟩; have n0_ := qb7 (blk_below (g := ab) (kb_ aa.out) hb); have n1_ := qb7 (qf7 (bl_ HB.out) hb); replace aa := n0_; replace HB := n1_; clear n0_ n1_; (try clear hb hk hi)))
    go_ret;exact ⟨rg_, bl_ HB.out⟩
   replace c7 := Bool.eq_false_iff.mpr c7;subst c7;(have H1 : (some false) = some r := by rw [if_neg (show ¬ (false = true) by decide)] at H; exact H);clear H;have H := H1;clear H1;obtain rfl := Option.some.inj H;go_enter Tryd.func7, Tryd.ntmps7
   go_wp2_with (first | ((with_reducible refine gate_dst (N := 1) rfl ?_); refine bx_ 1 #[.string a0_0, .int .i64 a0_1, .int .i64 a0_2, .int .i64 a0_3, .int .i64 a0_4, .int .i64 a0_5, .int .i64 a0_6, .int .i64 a0_7, .int .i64 a0_8, .int .i64 a0_9, .int .i64 a0_10] 37 ?_; intro ab hg w47 hbox hb; have n0_ := qb7 (qf7 (bl_ HB.out) hb); have n1_ := qb7 (hbox); have n2_ := qb7 ((sz_ (below_size (bl_ HB.out)) hg : w.heap.size ≤ ab)); have n3_ := qb7 n2_.out; replace HB := n0_; have aa := n1_; have ad := n2_; have ac := n3_; clear n0_ n1_ n2_ n3_; clear hb hbox hg; have aW := c11_ aa.out) | ((with_reducible refine gate_callee (f := 21) rfl ?_); refine gl_ (some 5) Tryd.func21 #[.string a0_0] ?_; (with_reducible refine (impl_TxtOk.calls k a0_0 true _ A2.out).mono ?_); rintro e w49 ⟨rfl, hb⟩; refine ⟨_, rfl, ?_⟩; have n0_ := qb7 (blk_below (g := ab) (kb_ aa.out) hb); have n1_ := qb7 (qf7 (bl_ HB.out) hb); replace aa := n0_; replace HB := n1_; clear n0_ n1_; (try clear hb hk hi); have bU := c11_ aa.out) | (go_at_call 22; (with_reducible refine (impl_in.calls a0_1 1 4 true _ A4.out).mono ?_); rintro e w' ⟨rfl, ⟨nd, rfl⟩⟩) | (go_at_call 22; (with_reducible refine (impl_in.calls a0_2 1 4 false _ A6.out).mono ?_); rintro e w' ⟨rfl, ⟨nd, rfl⟩⟩))
   go_ret;exact ⟨rg_, bl_ HB.out⟩
  replace c5 := Bool.eq_false_iff.mpr c5;subst c5;(have H1 : (some false) = some r := by rw [if_neg (show ¬ (false = true) by decide)] at H; exact H);clear H;have H := H1;clear H1;obtain rfl := Option.some.inj H;go_enter Tryd.func7, Tryd.ntmps7
  (go_wp2_with (first | ((with_reducible refine gate_dst (N := 1) rfl ?_); refine bx_ 1 #[.string a0_0, .int .i64 a0_1, .int .i64 a0_2, .int .i64 a0_3, .int .i64 a0_4, .int .i64 a0_5, .int .i64 a0_6, .int .i64 a0_7, .int .i64 a0_8, .int .i64 a0_9, .int .i64 a0_10] 37 ?_; intro ab hg w51 hbox hb; have n0_ := qb7 (qf7 (bl_ HB.out) hb); have n1_ := qb7 (hbox); have n2_ := qb7 ((sz_ (below_size (bl_ HB.out)) hg : w.heap.size ≤ ab)); have n3_ := qb7 n2_.out; replace HB := n0_; have aa := n1_; have ad := n2_; have ac := n3_; clear n0_ n1_ n2_ n3_; clear hb hbox hg; have g7 := c11_ aa.out) | ((with_reducible refine gate_callee (f := 21) rfl ?_); refine gl_ (some 5) Tryd.func21 #[.string a0_0] ?_; (with_reducible refine (impl_TxtOk.calls k a0_0 true _ A2.out).mono ?_); rintro e w53 ⟨rfl, hb⟩; refine ⟨_, rfl, ?_⟩; have n0_ := qb7 (blk_below (g := ab) (kb_ aa.out) hb); have n1_ := qb7 (qf7 (bl_ HB.out) hb); replace aa := n0_; replace HB := n1_; clear n0_ n1_; (try clear hb hk hi); have cg := c11_ aa.out) | (go_at_call 22; (with_reducible refine (impl_in.calls a0_1 1 4 false _ A4.out).mono ?_); rintro e w' ⟨rfl, ⟨nd, rfl⟩⟩)));go_ret
  exact ⟨rg_, bl_ HB.out⟩
 replace c3 := Bool.eq_false_iff.mpr c3;subst c3;(have H1 : (some false) = some r := by rw [if_neg (show ¬ (false = true) by decide)] at H; exact H);clear H;have H := H1;clear H1;obtain rfl := Option.some.inj H;go_enter Tryd.func7, Tryd.ntmps7;(go_wp2_with (first | ((with_reducible refine gate_dst (N := 1) rfl ?_); refine bx_ 1 #[.string a0_0, .int .i64 a0_1, .int .i64 a0_2, .int .i64 a0_3, .int .i64 a0_4, .int .i64 a0_5, .int .i64 a0_6, .int .i64 a0_7, .int .i64 a0_8, .int .i64 a0_9, .int .i64 a0_10] 37 ?_; intro ab hg w55 hbox hb; have n0_ := qb7 (qf7 (bl_ HB.out) hb); have n1_ := qb7 (hbox); have n2_ := qb7 ((sz_ (below_size (bl_ HB.out)) hg : w.heap.size ≤ ab)); have n3_ := qb7 n2_.out; replace HB := n0_; have aa := n1_; have ad := n2_; have ac := n3_; clear n0_ n1_ n2_ n3_; clear hb hbox hg; have d0 := c11_ aa.out) | ((with_reducible refine gate_callee (f := 21) rfl ?_); refine gl_ (some 5) Tryd.func21 #[.string a0_0] ?_; (with_reducible refine (impl_TxtOk.calls k a0_0 false _ A2.out).mono ?_); rintro e w57 ⟨rfl, hb⟩; refine ⟨_, rfl, ?_⟩; have n0_ := qb7 (blk_below (g := ab) (kb_ aa.out) hb); have n1_ := qb7 (qf7 (bl_ HB.out) hb); replace aa := n0_; replace HB := n1_; clear n0_ n1_; (try clear hb hk hi))));go_ret;exact ⟨rg_, bl_ HB.out⟩
end Go.Proofs.YtnednnnegofhkaaDoor.Pr
namespace Go.Proofs.YtnednnnegofhkaaDoor.Pr
open Go.RowKit Go.Proofs.YtnednnnegofhkaaDoorW.PrintWords Go.Proofs.YtnednnnegofhkaaDoorW.PrintLast Go.Proofs.YtnednnnegofhkaaDoorW.PrintMore
attribute [local go_sem] max2_int min2_int max_two min_two max_three min_three max_four min_four
set_option linter.unusedVariables false
set_option linter.unusedSimpArgs false
def tblColV (x : S29) : Value := .agg #[.int .i64 x.f0, .int .i64 x.f1]
set_option maxHeartbeats 4000000 in
theorem idxTblCol_calls (p : S29 → Bool) (g : Nat) (fst lb : Array Value) (eg : ∀ args w, (callFunc g args).run Tryd.prog w = .ok (.enter g args) w) (A : Option Addr) (c : Nat) (l : List S29) (w : World) (hr : Kd.C k29 w A l.length l) (hc : l.length ≤ c)
    (hp : ∀ (W : World) (x : S29), x ∈ l → Below w.heap.size w W → Calls Tryd.prog g (fst.push (tblColV x) ++ lb) W fun e w' => e = .returned (.bool (p x)) ∧ Below W.heap.size W w') :
    Calls Tryd.prog 45 #[.slice A l.length c, .func (.func g) fst lb] w fun e w' => e = .returned (.int .i64 (idxOf p l)) ∧ Below w.heap.size w w' := by
  have HR := Aside0.mk hr
  have HP := Aside0.mk hp
  have hm := Kd.C_max hr
  clear hr hp
  go_enter Tryd.func45, Tryd.ntmps45
  go_wp2
  go_loopg [5, 8] l.length (fun gk v5 v8 wr => ∃ k : Nat, k ≤ l.length ∧ l.length - k ≤ gk ∧ v8 = .int .i64 k ∧ Aside0 (Below w.heap.size w wr) ∧ Aside0 (∀ j x, j < k → l[j]? = some x → p x = false))
  case atStart => exact ⟨0, Nat.zero_le _, by omega, rfl, ⟨Below.refl _ w⟩, ⟨fun j x hj => absurd hj (Nat.not_lt_zero _)⟩⟩
  case round =>
    obtain ⟨k, hk, hg, rfl, BW, HN⟩ := hrel
    by_cases hlt : k < l.length
    · have hltz : (k : Int) < (l.length : Int) := by omega
      obtain ⟨ad, eA, hx0, hx1⟩ := at_T29 HR.out (k : Int) (by omega) hltz
      cases eA
      replace hx0 := (BW.out.cell (World.block_lt_of_cell? w _ hx0)).trans hx0
      replace hx1 := (BW.out.cell (World.block_lt_of_cell? w _ hx1)).trans hx1
      rw [Int.toNat_natCast] at hx0 hx1
      have hmem := getD_at l k z29 hlt
      have hrd : rd_T29 l (k : Int) = l.getD (k : Int).toNat z29 := rfl
      rw [← hrd] at hmem
      have hcall := HP.out wr (rd_T29 l k) (List.mem_of_getElem? hmem) BW.out
      unfold tblColV at hcall
      have HM := Aside0.mk hmem
      clear hmem hrd
      cases hq : p (rd_T29 l k) with
      | true =>
        rw [hq] at hcall
        have HQ := Aside0.mk hq
        clear hq
        go_wp2_with ((with_reducible refine hcall.mono ?_); rintro e w' ⟨rfl, hb'⟩)
        go_ret
        exact ⟨by rw [idxOf_hit p l k _ HM.out HQ.out HN.out]; rfl, below_then BW.out BW.out.size hb'⟩
      | false =>
        rw [hq] at hcall
        have HQ := Aside0.mk hq
        clear hq
        go_wp2_with ((with_reducible refine hcall.mono ?_); rintro e w' ⟨rfl, hb'⟩)
        go_roundg (l.length - (k + 1))
        case measure => omega
        case rel =>
          refine ⟨k + 1, by omega, by omega, by go_num, ⟨below_then BW.out BW.out.size hb'⟩, ⟨fun j y hj hy => ?_⟩⟩
          by_cases e : j = k
          · subst e
            rw [HM.out] at hy; cases hy; exact HQ.out
          · exact HN.out j y (by omega) hy
    · have hltz : ¬ (k : Int) < (l.length : Int) := by omega
      have : k = l.length := by omega
      subst this
      go_wp2
      go_ret
      exact ⟨by rw [idxOf_miss p l HN.out]; rfl, BW.out⟩
end Go.Proofs.YtnednnnegofhkaaDoor.Pr
namespace Go.Proofs.YtnednnnegofhkaaDoor.Pr
open Go.RowKit Go.Proofs.YtnednnnegofhkaaDoorW.PrintWords Go.Proofs.YtnednnnegofhkaaDoorW.PrintLast Go.Proofs.YtnednnnegofhkaaDoorW.PrintMore
attribute [local go_sem] max2_int min2_int max_two min_two max_three min_three max_four min_four
set_option linter.unusedVariables false
set_option linter.unusedSimpArgs false
set_option maxHeartbeats 2000000 in
theorem contTblCol_calls (p : S29 → Bool) (g : Nat) (fst lb : Array Value) (eg : ∀ args w, (callFunc g args).run Tryd.prog w = .ok (.enter g args) w) (A : Option Addr) (c : Nat) (l : List S29) (w : World) (hr : Kd.C k29 w A l.length l) (hc : l.length ≤ c)
    (hp : ∀ (W : World) (x : S29), x ∈ l → Below w.heap.size w W → Calls Tryd.prog g (fst.push (tblColV x) ++ lb) W fun e w' => e = .returned (.bool (p x)) ∧ Below W.heap.size W w') :
    Calls Tryd.prog 24 #[.slice A l.length c, .func (.func g) fst lb] w fun e w' => e = .returned (.bool (l.any p)) ∧ Below w.heap.size w w' := by
  have hcall := fun W (hb : W = w) => idxTblCol_calls p g fst lb eg A c l W (hb ▸ hr) hc (hb ▸ hp)
  have HC := Aside0.mk hcall
  clear hcall hr hp hc
  have hi := idxOf_range p l
  have hd : decide (0 ≤ idxOf p l) = l.any p := by
    cases h : l.any p
    · apply decide_eq_false; intro q; have := hi.2.2.mp q; rw [h] at this; cases this
    · exact decide_eq_true (hi.2.2.mpr h)
  have HD := Aside0.mk hd
  clear hd hi
  go_enter Tryd.func24, Tryd.ntmps24
  go_wp2_with (go_at_call 45; refine (HC.out _ rfl).mono ?_; rintro e w' ⟨rfl, hb'⟩)
  go_ret
  exact ⟨by rw [← HD.out]; rfl, hb'⟩
end Go.Proofs.YtnednnnegofhkaaDoor.Pr
namespace Go.Proofs.YtnednnnegofhkaaDoor.Pr
open Go.RowKit Go.Proofs.YtnednnnegofhkaaDoorW.PrintWords Go.Proofs.YtnednnnegofhkaaDoorW.PrintLast Go.Proofs.YtnednnnegofhkaaDoorW.PrintMore
attribute [local go_sem] max2_int min2_int max_two min_two max_three min_three max_four min_four
set_option linter.unusedVariables false
set_option linter.unusedSimpArgs false
def impl_TblCol_ok.f (a0_0 : Int) (a0_1 : Int) : Option (Bool) := if a0_0 = 0 then (some (a0_1 == 0)) else (if a0_0 = 1 then ((impl_in.f a0_1 0 60).bind fun t398 => (some t398)) else (if a0_0 = 2 then ((impl_in.f a0_1 1 100).bind fun t399 => (some t399)) else (some false)))
set_option maxHeartbeats 8000000 in
set_option maxRecDepth 100000 in
theorem impl_TblCol_ok.calls (a0_0 : Int) (a0_1 : Int) (r : Bool) (w : World) (h : impl_TblCol_ok.f a0_0 a0_1 = some r) :
  Calls Tryd.prog 26 #[.agg #[.int .i64 a0_0, .int .i64 a0_1]] w fun e w' => e = .returned (.bool r) ∧ Below w.heap.size w w' := by
 have hu29 := Tryd.underlying29;have HB := Aside0.mk (Below.refl w.heap.size w);have H := h;unfold impl_TblCol_ok.f at H;clear h;by_cases c2 : a0_0 = 0;(·rw [if_pos c2] at H;have ai : (a0_0 == 0) = true := beq_iff_eq.mpr c2;have af : (a0_0 != 0) = false := bne_eq_false_iff_eq.mpr c2;clear c2;obtain rfl := Option.some.inj H;go_enter Tryd.func26, Tryd.ntmps26;(go_wp2_with (first | ((with_reducible refine gate_dst (N := 1) rfl ?_); refine bx_ 1 #[.int .i64 a0_0, .int .i64 a0_1] 29 ?_; intro ab hg w3 hbox hb; have n0_ := Aside0.mk (below_step (bl_ HB.out) hb); have n1_ := Aside0.mk (hbox); have n2_ := Aside0.mk ((sz_ (below_size (bl_ HB.out)) hg : w.heap.size ≤ ab)); have n3_ := Aside0.mk n2_.out; replace HB := n0_; have aa := n1_; have ad := n2_; have ac := n3_; clear n0_ n1_ n2_ n3_; clear hb hbox hg; have av := c2_ aa.out)));go_ret;exact ⟨by first | rfl | (simp [errW_none, errW_some] <;> rfl) | (simp [*, errW_none, errW_some] <;> rfl), bl_ HB.out⟩)
 rw [if_neg c2] at H;have ai : (a0_0 == 0) = false := beq_eq_false_iff_ne.mpr c2;have af : (a0_0 != 0) = true := bne_iff_ne.mpr c2;by_cases c5 : a0_0 = 1;(·rw [if_pos c5] at H;have ak : (a0_0 == 1) = true := beq_iff_eq.mpr c5;have ah : (a0_0 != 1) = false := bne_eq_false_iff_eq.mpr c5;clear c5;obtain ⟨t398, A6, H⟩ := ob_ H;(try dsimp only at H);obtain rfl := Option.some.inj H;go_enter Tryd.func26, Tryd.ntmps26;(go_wp2_with (first | ((with_reducible refine gate_dst (N := 1) rfl ?_); refine bx_ 1 #[.int .i64 a0_0, .int .i64 a0_1] 29 ?_; intro ab hg w7 hbox hb; have n0_ := Aside0.mk (below_step (bl_ HB.out) hb); have n1_ := Aside0.mk (hbox); have n2_ := Aside0.mk ((sz_ (below_size (bl_ HB.out)) hg : w.heap.size ≤ ab)); have n3_ := Aside0.mk n2_.out; replace HB := n0_; have aa := n1_; have ad := n2_; have ac := n3_; clear n0_ n1_ n2_ n3_; clear hb hbox hg; have aB := c2_ aa.out) | ((with_reducible refine gate_callee (f := 22) rfl ?_); refine gl_ (some 14) Tryd.func22 #[.int .i64 a0_1, .int .i64 0, .int .i64 60] ?_; (with_reducible refine (impl_in.calls a0_1 0 60 t398 _ A6.out).mono ?_); rintro e w' ⟨rfl, ⟨nd, rfl⟩⟩; refine ⟨_, rfl, ?_⟩)));go_ret;exact ⟨by first | rfl | (simp [errW_none, errW_some] <;> rfl) | (simp [*, errW_none, errW_some] <;> rfl), bl_ HB.out⟩)
 rw [if_neg c5] at H;have ak : (a0_0 == 1) = false := beq_eq_false_iff_ne.mpr c5;have ah : (a0_0 != 1) = true := bne_iff_ne.mpr c5;by_cases c9 : a0_0 = 2;(·rw [if_pos c9] at H;have aj : (a0_0 == 2) = true := beq_iff_eq.mpr c9;have ag : (a0_0 != 2) = false := bne_eq_false_iff_eq.mpr c9;clear c9;obtain ⟨t399, A10, H⟩ := ob_ H;(try dsimp only at H);obtain rfl := Option.some.inj H;go_enter Tryd.func26, Tryd.ntmps26;(go_wp2_with (first | ((with_reducible refine gate_dst (N := 1) rfl ?_); refine bx_ 1 #[.int .i64 a0_0, .int .i64 a0_1] 29 ?_; intro ab hg w11 hbox hb; have n0_ := Aside0.mk (below_step (bl_ HB.out) hb); have n1_ := Aside0.mk (hbox); have n2_ := Aside0.mk ((sz_ (below_size (bl_ HB.out)) hg : w.heap.size ≤ ab)); have n3_ := Aside0.mk n2_.out; replace HB := n0_; have aa := n1_; have ad := n2_; have ac := n3_; clear n0_ n1_ n2_ n3_; clear hb hbox hg; have ao := c2_ aa.out) | ((with_reducible refine gate_callee (f := 22) rfl ?_); refine gl_ (some 19) Tryd.func22 #[.int .i64 a0_1, .int .i64 1, .int .i64 100] ?_; (with_reducible refine (impl_in.calls a0_1 1 100 t399 _ A10.out).mono ?_); rintro e w' ⟨rfl, ⟨nd, rfl⟩⟩; refine ⟨_, rfl, ?_⟩)));go_ret;exact ⟨by first | rfl | (simp [errW_none, errW_some] <;> rfl) | (simp [*, errW_none, errW_some] <;> rfl), bl_ HB.out⟩)
 rw [if_neg c9] at H;have aj : (a0_0 == 2) = false := beq_eq_false_iff_ne.mpr c9;have ag : (a0_0 != 2) = true := bne_iff_ne.mpr c9;obtain rfl := Option.some.inj H;go_enter Tryd.func26, Tryd.ntmps26;(go_wp2_with (first | ((with_reducible refine gate_dst (N := 1) rfl ?_); refine bx_ 1 #[.int .i64 a0_0, .int .i64 a0_1] 29 ?_; intro ab hg w13 hbox hb; have n0_ := Aside0.mk (below_step (bl_ HB.out) hb); have n1_ := Aside0.mk (hbox); have n2_ := Aside0.mk ((sz_ (below_size (bl_ HB.out)) hg : w.heap.size ≤ ab)); have n3_ := Aside0.mk n2_.out; replace HB := n0_; have aa := n1_; have ad := n2_; have ac := n3_; clear n0_ n1_ n2_ n3_; clear hb hbox hg; have ap := c2_ aa.out)));go_ret;exact ⟨by first | rfl | (simp [errW_none, errW_some] <;> rfl) | (simp [*, errW_none, errW_some] <;> rfl), bl_ HB.out⟩
end Go.Proofs.YtnednnnegofhkaaDoor.Pr
namespace Go.Proofs.YtnednnnegofhkaaDoor.Pr
open Go.RowKit Go.Proofs.YtnednnnegofhkaaDoorW.PrintWords Go.Proofs.YtnednnnegofhkaaDoorW.PrintLast Go.Proofs.YtnednnnegofhkaaDoorW.PrintMore
attribute [local go_sem] max2_int min2_int max_two min_two max_three min_three max_four min_four
set_option linter.unusedVariables false
set_option linter.unusedSimpArgs false
def impl_TblOk_1.f (a0_0 : Int) (a0_1 : Int) : Option (Bool) := (impl_TblCol_ok.f a0_0 a0_1).bind fun t401 => (some (!t401))
set_option maxHeartbeats 8000000 in
set_option maxRecDepth 100000 in
theorem impl_TblOk_1.calls (a0_0 : Int) (a0_1 : Int) (r : Bool) (w : World) (h : impl_TblOk_1.f a0_0 a0_1 = some r) :
    Calls Tryd.prog 25 #[.agg #[.int .i64 a0_0, .int .i64 a0_1]] w fun e w' => e = .returned (.bool r) ∧ Below w.heap.size w w' := by
  have hu29 := Tryd.underlying29
  have HB := Aside0.mk (Below.refl w.heap.size w)
  have H : ((impl_TblCol_ok.f a0_0 a0_1).bind fun t401 => (some (!t401))) = some r := h
  clear h
  replace H := Option.bind_eq_some_iff.mp H
  obtain ⟨t401, A20, H⟩ := H
  replace H : (some (!t401)) = some r := H
  have A2 := Aside0.mk A20
  clear A20
  obtain rfl := Option.some.inj H
  go_enter Tryd.func25, Tryd.ntmps25
  go_wp2_with (first | ((with_reducible refine gate_dst (N := 1) rfl ?_); refine box_event ?hg (N := 1) ?hd (cs := #[.int .i64 a0_0, .int .i64 a0_1]) (t := 29) ?hr ?_; (case hd => rfl); (case hg => rfl); (case hr => first | (go_simp; done) | (go_simp; rfl)); intro gb400 hg w3 hbox hb; have n0_ := Aside0.mk (below_step (by repeat (first | (with_reducible first | exact HB.out | apply below_alloc | apply pw_below_drewN | apply below_drew1) | exact HB.out)) hb); have n1_ := Aside0.mk (hbox); have n2_ := Aside0.mk ((by rw [hg]; exact (below_size (by repeat (first | (with_reducible first | exact HB.out | apply below_alloc | apply pw_below_drewN | apply below_drew1) | exact HB.out))) : w.heap.size ≤ gb400)); have n3_ := Aside0.mk ((by rw [hg]; exact (below_size (by repeat (first | (with_reducible first | exact HB.out | apply below_alloc | apply pw_below_drewN | apply below_drew1) | exact HB.out))) : w.heap.size ≤ gb400)); clear HB; have HB := n0_; have BK400 := n1_; have GW400 := n2_; have GE400 := n3_; clear n0_ n1_ n2_ n3_; clear hb hbox hg; have hcz4_0 : w3.cell? ⟨gb400, 0, none⟩ = some (.int .i64 a0_0) := (blk_cell BK400.out 0).trans rfl; have hcz4_1 : w3.cell? ⟨gb400, 1, none⟩ = some (.int .i64 a0_1) := (blk_cell BK400.out 1).trans rfl; have hfz4_0 := blk_frozen BK400.out 0; have hfz4_1 := blk_frozen BK400.out 1) | ((with_reducible refine gate_callee (f := 26) rfl ?_); refine goesL_ (some 4) rfl rfl Tryd.func26 (by kernel_rfl) rfl #[.agg #[.int .i64 a0_0, .int .i64 a0_1]] rfl (by (try simp only [List.map_toArray, List.map_cons, List.map_nil]); first | done | rfl | (simp only [List.length_drop, List.length_take]; rfl)) ?_; (with_reducible refine (impl_TblCol_ok.calls a0_0 a0_1 t401 _ A2.out).mono ?_); rintro e w5 ⟨rfl, hb⟩; refine ⟨_, rfl, ?_⟩; have n0_ := Aside0.mk (blk_below (g := gb400) (o := .cells #[.int .i64 a0_0, .int .i64 a0_1] 29 (0, 0)) (by (with_reducible repeat (first | refine blk_drewN ?_ _ | refine blk_drew ?_ | refine blk_alloc ?_ _)); exact BK400.out) hb); have n1_ := Aside0.mk (below_step (by repeat (first | (with_reducible first | exact HB.out | apply below_alloc | apply pw_below_drewN | apply below_drew1 | refine below_set ?_ GE400.out) | exact HB.out)) hb); clear BK400; clear HB; have BK400 := n0_; have HB := n1_; clear n0_ n1_; (try clear hb); (try clear hb2); (try clear hk); (try clear hi)))
  go_ret
  exact ⟨by first | rfl | (simp [errW_none, errW_some] <;> rfl) | (simp [*, errW_none, errW_some] <;> rfl), by repeat (first | (with_reducible first | exact HB.out | apply below_alloc | apply pw_below_drewN | apply below_drew1 | refine below_set ?_ GE400.out) | exact HB.out)⟩
end Go.Proofs.YtnednnnegofhkaaDoor.Pr
namespace Go.Proofs.YtnednnnegofhkaaDoor.Pr
open Go.RowKit Go.Proofs.YtnednnnegofhkaaDoorW.PrintWords Go.Proofs.YtnednnnegofhkaaDoorW.PrintLast Go.Proofs.YtnednnnegofhkaaDoorW.PrintMore
attribute [local go_sem] max2_int min2_int max_two min_two max_three min_three max_four min_four
set_option linter.unusedVariables false
set_option linter.unusedSimpArgs false
set_option maxHeartbeats 4000000 in
theorem idxTblRow_calls (p : S32 → Bool) (g : Nat) (fst lb : Array Value) (eg : ∀ args w, (callFunc g args).run Tryd.prog w = .ok (.enter g args) w) (A : Option Addr) (c : Nat) (l : List S32) (w : World) (hr : Kd.C k32 w A l.length l) (hc : l.length ≤ c)
    (hp : ∀ (W : World) (x : S32) (A0 : Option Addr) (c0 : Nat), x ∈ l → Below w.heap.size w W → x.f0.length ≤ c0 → Kd.C k37 W A0 x.f0.length x.f0 → Calls Tryd.prog g (fst.push (.agg #[.slice A0 x.f0.length c0, .bool x.f1]) ++ lb) W fun e w' => e = .returned (.bool (p x)) ∧ Below W.heap.size W w') :
    Calls Tryd.prog 46 #[.slice A l.length c, .func (.func g) fst lb] w fun e w' => e = .returned (.int .i64 (idxOf p l)) ∧ Below w.heap.size w w' := by
  have HR := Aside0.mk hr
  have HP := Aside0.mk hp
  have hm := Kd.C_max hr
  clear hr hp
  go_enter Tryd.func46, Tryd.ntmps46
  go_wp2
  go_loopg [5, 8] l.length (fun gk v5 v8 wr => ∃ k : Nat, k ≤ l.length ∧ l.length - k ≤ gk ∧ v8 = .int .i64 k ∧ Aside0 (Below w.heap.size w wr) ∧ Aside0 (∀ j x, j < k → l[j]? = some x → p x = false))
  case atStart => exact ⟨0, Nat.zero_le _, by omega, rfl, ⟨Below.refl _ w⟩, ⟨fun j x hj => absurd hj (Nat.not_lt_zero _)⟩⟩
  case round =>
    obtain ⟨k, hk, hg, rfl, BW, HN⟩ := hrel
    by_cases hlt : k < l.length
    · have hltz : (k : Int) < (l.length : Int) := by omega
      obtain ⟨ad, A0, c0, eA, hx0, hx1, hl0, hg0⟩ := at_T32 HR.out (k : Int) (by omega) hltz
      cases eA
      replace hx0 := (BW.out.cell (World.block_lt_of_cell? w _ hx0)).trans hx0
      replace hx1 := (BW.out.cell (World.block_lt_of_cell? w _ hx1)).trans hx1
      replace hg0 := Kd.C_below hg0 BW.out
      rw [Int.toNat_natCast] at hx0 hx1
      have hmem := getD_at l k z32 hlt
      have hrd : rd_T32 l (k : Int) = l.getD (k : Int).toNat z32 := rfl
      rw [← hrd] at hmem
      have hcall := HP.out wr (rd_T32 l k) A0 c0 (List.mem_of_getElem? hmem) BW.out hl0 hg0
      clear hg0
      have HM := Aside0.mk hmem
      clear hmem hrd
      cases hq : p (rd_T32 l k) with
      | true =>
        rw [hq] at hcall
        have HQ := Aside0.mk hq
        clear hq
        go_wp2_with ((with_reducible refine hcall.mono ?_); rintro e w' ⟨rfl, hb'⟩)
        go_ret
        exact ⟨by rw [idxOf_hit p l k _ HM.out HQ.out HN.out]; rfl, below_then BW.out BW.out.size hb'⟩
      | false =>
        rw [hq] at hcall
        have HQ := Aside0.mk hq
        clear hq
        go_wp2_with ((with_reducible refine hcall.mono ?_); rintro e w' ⟨rfl, hb'⟩)
        go_roundg (l.length - (k + 1))
        case measure => omega
        case rel =>
          refine ⟨k + 1, by omega, by omega, by go_num, ⟨below_then BW.out BW.out.size hb'⟩, ⟨fun j y hj hy => ?_⟩⟩
          by_cases e : j = k
          · subst e
            rw [HM.out] at hy; cases hy; exact HQ.out
          · exact HN.out j y (by omega) hy
    · have hltz : ¬ (k : Int) < (l.length : Int) := by omega
      have : k = l.length := by omega
      subst this
      go_wp2
      go_ret
      exact ⟨by rw [idxOf_miss p l HN.out]; rfl, BW.out⟩
end Go.Proofs.YtnednnnegofhkaaDoor.Pr
namespace Go.Proofs.YtnednnnegofhkaaDoor.Pr
open Go.RowKit Go.Proofs.YtnednnnegofhkaaDoorW.PrintWords Go.Proofs.YtnednnnegofhkaaDoorW.PrintLast Go.Proofs.YtnednnnegofhkaaDoorW.PrintMore
attribute [local go_sem] max2_int min2_int max_two min_two max_three min_three max_four min_four
set_option linter.unusedVariables false
set_option linter.unusedSimpArgs false
set_option maxHeartbeats 2000000 in
theorem contTblRow_calls (p : S32 → Bool) (g : Nat) (fst lb : Array Value) (eg : ∀ args w, (callFunc g args).run Tryd.prog w = .ok (.enter g args) w) (A : Option Addr) (c : Nat) (l : List S32) (w : World) (hr : Kd.C k32 w A l.length l) (hc : l.length ≤ c)
    (hp : ∀ (W : World) (x : S32) (A0 : Option Addr) (c0 : Nat), x ∈ l → Below w.heap.size w W → x.f0.length ≤ c0 → Kd.C k37 W A0 x.f0.length x.f0 → Calls Tryd.prog g (fst.push (.agg #[.slice A0 x.f0.length c0, .bool x.f1]) ++ lb) W fun e w' => e = .returned (.bool (p x)) ∧ Below W.heap.size W w') :
    Calls Tryd.prog 28 #[.slice A l.length c, .func (.func g) fst lb] w fun e w' => e = .returned (.bool (l.any p)) ∧ Below w.heap.size w w' := by
  have hcall := fun W (hb : W = w) => idxTblRow_calls p g fst lb eg A c l W (hb ▸ hr) hc (hb ▸ hp)
  have HC := Aside0.mk hcall
  clear hcall hr hp hc
  have hi := idxOf_range p l
  have hd : decide (0 ≤ idxOf p l) = l.any p := by
    cases h : l.any p
    · apply decide_eq_false; intro q; have := hi.2.2.mp q; rw [h] at this; cases this
    · exact decide_eq_true (hi.2.2.mpr h)
  have HD := Aside0.mk hd
  clear hd hi
  go_enter Tryd.func28, Tryd.ntmps28
  go_wp2_with (go_at_call 46; refine (HC.out _ rfl).mono ?_; rintro e w' ⟨rfl, hb'⟩)
  go_ret
  exact ⟨by rw [← HD.out]; rfl, hb'⟩
end Go.Proofs.YtnednnnegofhkaaDoor.Pr
namespace Go.Proofs.YtnednnnegofhkaaDoor.Pr
open Go.RowKit Go.Proofs.YtnednnnegofhkaaDoorW.PrintWords Go.Proofs.YtnednnnegofhkaaDoorW.PrintLast Go.Proofs.YtnednnnegofhkaaDoorW.PrintMore
attribute [local go_sem] max2_int min2_int max_two min_two max_three min_three max_four min_four
set_option linter.unusedVariables false
set_option linter.unusedSimpArgs false
def impl_TblOk_2.f (k : Nat) (a0_0 : ByteArray) (a0_1 : Int) (a0_2 : Int) (a0_3 : Int) (a0_4 : Int) (a0_5 : Int) (a0_6 : Int) (a0_7 : Int) (a0_8 : Int) (a0_9 : Int) (a0_10 : Int) : Option (Bool) := (impl_CellOk.f k a0_0 a0_1 a0_2 a0_3 a0_4 a0_5 a0_6 a0_7 a0_8 a0_9 a0_10).bind fun t403 => (some (!t403))
set_option maxHeartbeats 8000000 in
set_option maxRecDepth 100000 in
theorem impl_TblOk_2.calls (k : Nat) (a0_0 : ByteArray) (a0_1 : Int) (a0_2 : Int) (a0_3 : Int) (a0_4 : Int) (a0_5 : Int) (a0_6 : Int) (a0_7 : Int) (a0_8 : Int) (a0_9 : Int) (a0_10 : Int) (r : Bool) (w : World) (h : impl_TblOk_2.f k a0_0 a0_1 a0_2 a0_3 a0_4 a0_5 a0_6 a0_7 a0_8 a0_9 a0_10 = some r) :
  Calls Tryd.prog 27 #[.agg #[.string a0_0, .int .i64 a0_1, .int .i64 a0_2, .int .i64 a0_3, .int .i64 a0_4, .int .i64 a0_5, .int .i64 a0_6, .int .i64 a0_7, .int .i64 a0_8, .int .i64 a0_9, .int .i64 a0_10]] w fun e w' => e = .returned (.bool r) ∧ Below w.heap.size w w' := by
 have hu37 := Tryd.underlying37;have HB := Aside0.mk (Below.refl w.heap.size w);have H := h;unfold impl_TblOk_2.f at H;clear h;obtain ⟨t403, A2, H⟩ := ob_ H;(try dsimp only at H);obtain rfl := Option.some.inj H;go_enter Tryd.func27, Tryd.ntmps27
 (go_wp2_with (first | ((with_reducible refine gate_dst (N := 1) rfl ?_); refine bx_ 1 #[.string a0_0, .int .i64 a0_1, .int .i64 a0_2, .int .i64 a0_3, .int .i64 a0_4, .int .i64 a0_5, .int .i64 a0_6, .int .i64 a0_7, .int .i64 a0_8, .int .i64 a0_9, .int .i64 a0_10] 37 ?_; intro ab hg w3 hbox hb; have n0_ := Aside0.mk (below_step (bl_ HB.out) hb); have n1_ := Aside0.mk (hbox); have n2_ := Aside0.mk ((sz_ (below_size (bl_ HB.out)) hg : w.heap.size ≤ ab)); have n3_ := Aside0.mk n2_.out; replace HB := n0_; have aa := n1_; have GW402 := n2_; have ac := n3_; clear n0_ n1_ n2_ n3_; clear hb hbox hg; have af := c11_ aa.out) | ((with_reducible refine gate_callee (f := 7) rfl ?_); refine gl_ (some 4) Tryd.func7 #[.agg #[.string a0_0, .int .i64 a0_1, .int .i64 a0_2, .int .i64 a0_3, .int .i64 a0_4, .int .i64 a0_5, .int .i64 a0_6, .int .i64 a0_7, .int .i64 a0_8, .int .i64 a0_9, .int .i64 a0_10]] ?_; (with_reducible refine (impl_CellOk.calls k a0_0 a0_1 a0_2 a0_3 a0_4 a0_5 a0_6 a0_7 a0_8 a0_9 a0_10 t403 _ A2.out).mono ?_); rintro e w5 ⟨rfl, hb⟩; refine ⟨_, rfl, ?_⟩; have n0_ := Aside0.mk (blk_below (g := ab) (kb_ aa.out) hb); have n1_ := Aside0.mk (below_step (bl_ HB.out) hb); replace aa := n0_; replace HB := n1_; clear n0_ n1_; (try clear hb hk hi))));go_ret;exact ⟨by first | rfl | (simp [errW_none, errW_some] <;> rfl) | (simp [*, errW_none, errW_some] <;> rfl), bl_ HB.out⟩
end Go.Proofs.YtnednnnegofhkaaDoor.Pr
namespace Go.Proofs.YtnednnnegofhkaaDoor.Pr
open Go.RowKit Go.Proofs.YtnednnnegofhkaaDoorW.PrintWords Go.Proofs.YtnednnnegofhkaaDoorW.PrintLast Go.Proofs.YtnednnnegofhkaaDoorW.PrintMore
attribute [local go_sem] max2_int min2_int max_two min_two max_three min_three max_four min_four
set_option linter.unusedVariables false
set_option linter.unusedSimpArgs false
def tblCellV (x : S37) : Value := .agg #[.string x.f0, .int .i64 x.f1, .int .i64 x.f2, .int .i64 x.f3.f0, .int .i64 x.f3.f1, .int .i64 x.f4.f0, .int .i64 x.f4.f1, .int .i64 x.f5.f0, .int .i64 x.f5.f1, .int .i64 x.f6.f0, .int .i64 x.f6.f1]
set_option maxHeartbeats 4000000 in
theorem idxTblCell_calls (p : S37 → Bool) (g : Nat) (fst lb : Array Value) (eg : ∀ args w, (callFunc g args).run Tryd.prog w = .ok (.enter g args) w) (A : Option Addr) (c : Nat) (l : List S37) (w : World) (hr : Kd.C k37 w A l.length l) (hc : l.length ≤ c)
    (hp : ∀ (W : World) (x : S37), x ∈ l → Below w.heap.size w W → Calls Tryd.prog g (fst.push (tblCellV x) ++ lb) W fun e w' => e = .returned (.bool (p x)) ∧ Below W.heap.size W w') :
    Calls Tryd.prog 47 #[.slice A l.length c, .func (.func g) fst lb] w fun e w' => e = .returned (.int .i64 (idxOf p l)) ∧ Below w.heap.size w w' := by
  have HR := Aside0.mk hr
  have HP := Aside0.mk hp
  have hm := Kd.C_max hr
  clear hr hp
  go_enter Tryd.func47, Tryd.ntmps47
  go_wp2
  go_loopg [5, 8] l.length (fun gk v5 v8 wr => ∃ k : Nat, k ≤ l.length ∧ l.length - k ≤ gk ∧ v8 = .int .i64 k ∧ Aside0 (Below w.heap.size w wr) ∧ Aside0 (∀ j x, j < k → l[j]? = some x → p x = false))
  case atStart => exact ⟨0, Nat.zero_le _, by omega, rfl, ⟨Below.refl _ w⟩, ⟨fun j x hj => absurd hj (Nat.not_lt_zero _)⟩⟩
  case round =>
    obtain ⟨k, hk, hg, rfl, BW, HN⟩ := hrel
    by_cases hlt : k < l.length
    · have hltz : (k : Int) < (l.length : Int) := by omega
      obtain ⟨ad, eA, hx0, hx1, hx2, hx3, hx4, hx5, hx6, hx7, hx8, hx9, hx10⟩ := at_T37 HR.out (k : Int) (by omega) hltz
      cases eA
      replace hx0 := (BW.out.cell (World.block_lt_of_cell? w _ hx0)).trans hx0
      replace hx1 := (BW.out.cell (World.block_lt_of_cell? w _ hx1)).trans hx1
      replace hx2 := (BW.out.cell (World.block_lt_of_cell? w _ hx2)).trans hx2
      replace hx3 := (BW.out.cell (World.block_lt_of_cell? w _ hx3)).trans hx3
      replace hx4 := (BW.out.cell (World.block_lt_of_cell? w _ hx4)).trans hx4
      replace hx5 := (BW.out.cell (World.block_lt_of_cell? w _ hx5)).trans hx5
      replace hx6 := (BW.out.cell (World.block_lt_of_cell? w _ hx6)).trans hx6
      replace hx7 := (BW.out.cell (World.block_lt_of_cell? w _ hx7)).trans hx7
      replace hx8 := (BW.out.cell (World.block_lt_of_cell? w _ hx8)).trans hx8
      replace hx9 := (BW.out.cell (World.block_lt_of_cell? w _ hx9)).trans hx9
      replace hx10 := (BW.out.cell (World.block_lt_of_cell? w _ hx10)).trans hx10
      rw [Int.toNat_natCast] at hx0 hx1 hx2 hx3 hx4 hx5 hx6 hx7 hx8 hx9 hx10
      have hmem := getD_at l k z37 hlt
      have hrd : rd_T37 l (k : Int) = l.getD (k : Int).toNat z37 := rfl
      rw [← hrd] at hmem
      have hcall := HP.out wr (rd_T37 l k) (List.mem_of_getElem? hmem) BW.out
      unfold tblCellV at hcall
      have HM := Aside0.mk hmem
      clear hmem hrd
      cases hq : p (rd_T37 l k) with
      | true =>
        rw [hq] at hcall
        have HQ := Aside0.mk hq
        clear hq
        go_wp2_with ((with_reducible refine hcall.mono ?_); rintro e w' ⟨rfl, hb'⟩)
        go_ret
        exact ⟨by rw [idxOf_hit p l k _ HM.out HQ.out HN.out]; rfl, below_then BW.out BW.out.size hb'⟩
      | false =>
        rw [hq] at hcall
        have HQ := Aside0.mk hq
        clear hq
        go_wp2_with ((with_reducible refine hcall.mono ?_); rintro e w' ⟨rfl, hb'⟩)
        go_roundg (l.length - (k + 1))
        case measure => omega
        case rel =>
          refine ⟨k + 1, by omega, by omega, by go_num, ⟨below_then BW.out BW.out.size hb'⟩, ⟨fun j y hj hy => ?_⟩⟩
          by_cases e : j = k
          · subst e
            rw [HM.out] at hy; cases hy; exact HQ.out
          · exact HN.out j y (by omega) hy
    · have hltz : ¬ (k : Int) < (l.length : Int) := by omega
      have : k = l.length := by omega
      subst this
      go_wp2
      go_ret
      exact ⟨by rw [idxOf_miss p l HN.out]; rfl, BW.out⟩
end Go.Proofs.YtnednnnegofhkaaDoor.Pr
namespace Go.Proofs.YtnednnnegofhkaaDoor.Pr
open Go.RowKit Go.Proofs.YtnednnnegofhkaaDoorW.PrintWords Go.Proofs.YtnednnnegofhkaaDoorW.PrintLast Go.Proofs.YtnednnnegofhkaaDoorW.PrintMore
attribute [local go_sem] max2_int min2_int max_two min_two max_three min_three max_four min_four
set_option linter.unusedVariables false
set_option linter.unusedSimpArgs false
set_option maxHeartbeats 2000000 in
theorem contTblCell_calls (p : S37 → Bool) (g : Nat) (fst lb : Array Value) (eg : ∀ args w, (callFunc g args).run Tryd.prog w = .ok (.enter g args) w) (A : Option Addr) (c : Nat) (l : List S37) (w : World) (hr : Kd.C k37 w A l.length l) (hc : l.length ≤ c)
    (hp : ∀ (W : World) (x : S37), x ∈ l → Below w.heap.size w W → Calls Tryd.prog g (fst.push (tblCellV x) ++ lb) W fun e w' => e = .returned (.bool (p x)) ∧ Below W.heap.size W w') :
    Calls Tryd.prog 30 #[.slice A l.length c, .func (.func g) fst lb] w fun e w' => e = .returned (.bool (l.any p)) ∧ Below w.heap.size w w' := by
  have hcall := fun W (hb : W = w) => idxTblCell_calls p g fst lb eg A c l W (hb ▸ hr) hc (hb ▸ hp)
  have HC := Aside0.mk hcall
  clear hcall hr hp hc
  have hi := idxOf_range p l
  have hd : decide (0 ≤ idxOf p l) = l.any p := by
    cases h : l.any p
    · apply decide_eq_false; intro q; have := hi.2.2.mp q; rw [h] at this; cases this
    · exact decide_eq_true (hi.2.2.mpr h)
  have HD := Aside0.mk hd
  clear hd hi
  go_enter Tryd.func30, Tryd.ntmps30
  go_wp2_with (go_at_call 47; refine (HC.out _ rfl).mono ?_; rintro e w' ⟨rfl, hb'⟩)
  go_ret
  exact ⟨by rw [← HD.out]; rfl, hb'⟩
end Go.Proofs.YtnednnnegofhkaaDoor.Pr
namespace Go.Proofs.YtnednnnegofhkaaDoor.Pr
open Go.RowKit Go.Proofs.YtnednnnegofhkaaDoorW.PrintWords Go.Proofs.YtnednnnegofhkaaDoorW.PrintLast Go.Proofs.YtnednnnegofhkaaDoorW.PrintMore
attribute [local go_sem] max2_int min2_int max_two min_two max_three min_three max_four min_four
set_option linter.unusedVariables false
set_option linter.unusedSimpArgs false
def cellP (k : Nat) (c : S37) : Option Bool := impl_CellOk.f k (c.f0) (c.f1) (c.f2) (c.f3.f0) (c.f3.f1) (c.f4.f0) (c.f4.f1) (c.f5.f0) (c.f5.f1) (c.f6.f0) (c.f6.f1)
def cellB (k : Nat) (c : S37) : Bool := (cellP k c).getD false
def rowB (k : Nat) (l : List S37) : Bool := decide ((l.length : Int) > 5) || l.any fun c => !(cellB k c)
set_option maxHeartbeats 4000000 in
theorem rowB_calls (k : Nat) (b : Bool) (A0 : Option Addr) (c0 : Nat) (l : List S37) (g : Nat) (w : World) (h1 : w.cell? ⟨g, 0, none⟩ = some (.func (.func 27) #[] #[]))
    (hr : Kd.C k37 w A0 l.length l) (hc : l.length ≤ c0) (hk : ∀ c ∈ l, (cellP k c).isSome = true) :
    Calls Tryd.prog 29 #[.agg #[.slice A0 l.length c0, .bool b], .pointer (some ⟨g, 0, none⟩)] w fun e w' => e = .returned (.bool (rowB k l)) ∧ Below w.heap.size w w' := by
  have l1 : g < w.heap.size := World.block_lt_of_cell? w _ h1
  have n1 : ¬ w.heap.size = g := by omega
  have hcall : ∀ W, Below w.heap.size w W → Calls Tryd.prog 30 #[.slice A0 l.length c0, .func (.func 27) #[] #[]] W fun e w' => e = .returned (.bool (l.any fun c => !(cellB k c))) ∧ Below W.heap.size W w' := fun W hb => by
    refine contTblCell_calls (fun c => !(cellB k c)) 27 #[] #[] (enters_ Tryd.func27 (by kernel_rfl) rfl) A0 c0 l W (Kd.C_below hr hb) hc (fun W' x hx _ => ?_)
    obtain ⟨q, hq⟩ := Option.isSome_iff_exists.mp (hk x hx)
    have e : cellB k x = q := by unfold cellB; rw [hq]; rfl
    rw [e]
    exact impl_TblOk_2.calls k _ _ _ _ _ _ _ _ _ _ _ (!q) W' (by unfold impl_TblOk_2.f; have hq2 := hq; unfold cellP at hq2; rw [hq2]; rfl)
  have HC := Aside0.mk hcall
  have bel : ∀ o, Below w.heap.size w (w.alloc o) := fun o => below_alloc (Below.refl w.heap.size w) o
  have HB := Aside0.mk bel
  clear hcall bel hr hk
  unfold rowB
  by_cases c5 : (l.length : Int) > 5
  · have d5 : decide ((l.length : Int) > 5) = true := decide_eq_true c5
    rw [d5]
    go_enter Tryd.func29, Tryd.ntmps29
    go_wp2
    go_ret
    exact ⟨rfl, HB.out _⟩
  · have d5 : decide ((l.length : Int) > 5) = false := decide_eq_false c5
    rw [d5]
    go_enter Tryd.func29, Tryd.ntmps29
    go_wp2_with (go_at_call 30; refine (HC.out _ (HB.out _)).mono ?_; rintro e w' ⟨rfl, hb'⟩)
    go_ret
    exact ⟨by simp, below_then (HB.out _) (HB.out _).size hb'⟩
end Go.Proofs.YtnednnnegofhkaaDoor.Pr
namespace Go.Proofs.YtnednnnegofhkaaDoor.Pr
open Go.RowKit Go.Proofs.YtnednnnegofhkaaDoorW.PrintWords Go.Proofs.YtnednnnegofhkaaDoorW.PrintLast Go.Proofs.YtnednnnegofhkaaDoorW.PrintMore
attribute [local go_sem] max2_int min2_int max_two min_two max_three min_three max_four min_four
set_option linter.unusedVariables false
set_option linter.unusedSimpArgs false
def tin (lo hi n : Int) : Bool := decide (lo ≤ n) && decide (n ≤ hi)
theorem tin_eq (lo hi n : Int) : impl_in.f n lo hi = some (tin lo hi n) := by
  unfold impl_in.f tin
  by_cases h : lo ≤ n
  · rw [if_pos h]; simp [h]
  · rw [if_neg h]; simp [h]
def colB (a b : Int) : Bool := if a = 0 then b == 0 else if a = 1 then tin 0 60 b else if a = 2 then tin 1 100 b else false
theorem colB_eq (a b : Int) : impl_TblCol_ok.f a b = some (colB a b) := by
  unfold impl_TblCol_ok.f colB
  simp only [tin_eq, Option.bind_some]
  split
  · rfl
  · split
    · rfl
    · split <;> rfl
def colsB (l : List S29) : Bool := l.any fun c => !(colB c.f0 c.f1)
def rowsB (k : Nat) (l : List S32) : Bool := l.any fun r => rowB k r.f0
def rowsK (k : Nat) (l : List S32) : Bool := l.all fun r => r.f0.all fun c => (cellP k c).isSome
def impl_TblOk.f (k : Nat) (l0_0 : List S29) (a0_1 a0_2 : Int) (l0_3 : List S32) (a0_4 : Int) : Option Bool :=
  if tin 1 8 (l0_3.length : Int) = true then (if (l0_0.length : Int) > 8 then some false else if tin 0 3 a0_4 = true then
    (if tin 0 (l0_3.length : Int) a0_1 = true then (if tin 0 (wrap64 ((l0_3.length : Int) - a0_1)) a0_2 = true then (if colsB l0_0 = true then some false else if rowsK k l0_3 = true then some (!(rowsB k l0_3)) else none) else some false) else some false) else some false) else some false
theorem any_mem {α : Type} (p q : α → Bool) : ∀ l : List α, (∀ x ∈ l, p x = q x) → l.any p = l.any q
  | [], _ => rfl
  | x :: l, h => by rw [List.any_cons, List.any_cons, h x (by simp), any_mem p q l (fun y hy => h y (by simp [hy]))]
set_option maxHeartbeats 8000000 in
set_option maxRecDepth 100000 in
theorem impl_TblOk.calls (k : Nat) (A0_0 : Option Addr) (c0_0 : Nat) (l0_0 : List S29) (a0_1 a0_2 : Int) (A0_3 : Option Addr) (c0_3 : Nat) (l0_3 : List S32) (a0_4 : Int) (r : Bool) (w : World) (hr0_0 : Kd.C k29 w A0_0 l0_0.length l0_0) (hc0_0 : l0_0.length ≤ c0_0) (hr0_3 : Kd.C k32 w A0_3 l0_3.length l0_3) (hc0_3 : l0_3.length ≤ c0_3) (h : impl_TblOk.f k l0_0 a0_1 a0_2 l0_3 a0_4 = some r) :
    Calls Tryd.prog 8 #[.agg #[.slice A0_0 l0_0.length c0_0, .int .i64 a0_1, .int .i64 a0_2, .slice A0_3 l0_3.length c0_3, .int .i64 a0_4]] w fun e w' => e = .returned (.bool r) ∧ Below w.heap.size w w' := by
  unfold impl_TblOk.f at h
  have bel : ∀ o, Below w.heap.size w (w.alloc o) := fun o => below_alloc (Below.refl w.heap.size w) o
  have HB := Aside0.mk bel
  have hm := Kd.C_max hr0_3
  have i1 := fun W => impl_in.calls (l0_3.length : Int) 1 8 _ W (tin_eq 1 8 (l0_3.length : Int))
  have i3 := fun W => impl_in.calls a0_4 0 3 _ W (tin_eq 0 3 a0_4)
  have i4 := fun W => impl_in.calls a0_1 0 (l0_3.length : Int) _ W (tin_eq 0 (l0_3.length : Int) a0_1)
  have i5 := fun W => impl_in.calls a0_2 0 (wrap64 ((l0_3.length : Int) - a0_1)) _ W (tin_eq 0 (wrap64 ((l0_3.length : Int) - a0_1)) a0_2)
  have hcol : ∀ W, Below w.heap.size w W → Calls Tryd.prog 24 #[.slice A0_0 l0_0.length c0_0, .func (.func 25) #[] #[]] W fun e w' => e = .returned (.bool (colsB l0_0)) ∧ Below W.heap.size W w' := fun W hb => by
    refine contTblCol_calls (fun c => !(colB c.f0 c.f1)) 25 #[] #[] (enters_ Tryd.func25 (by kernel_rfl) rfl) A0_0 c0_0 l0_0 W (Kd.C_below hr0_0 hb) hc0_0 (fun W' x _ _ => ?_)
    exact impl_TblOk_1.calls x.f0 x.f1 _ W' (by unfold impl_TblOk_1.f; rw [colB_eq]; rfl)
  have hrow : rowsK k l0_3 = true → ∀ (W : World) (g : Nat), Below w.heap.size w W → W.cell? ⟨g, 0, none⟩ = some (.func (.func 27) #[] #[]) → Calls Tryd.prog 28 #[.slice A0_3 l0_3.length c0_3, .func (.func 29) #[] #[.pointer (some ⟨g, 0, none⟩)]] W fun e w' => e = .returned (.bool (rowsB k l0_3)) ∧ Below W.heap.size W w' := fun hk W g hb hg => by
    refine contTblRow_calls (fun r => rowB k r.f0) 29 #[] #[.pointer (some ⟨g, 0, none⟩)] (enters_ Tryd.func29 (by kernel_rfl) rfl) A0_3 c0_3 l0_3 W (Kd.C_below hr0_3 hb) hc0_3 (fun W' x A' c' hx hb' hl hC => ?_)
    refine rowB_calls k x.f1 A' c' x.f0 g W' ((hb'.cell (World.block_lt_of_cell? W _ hg)).trans hg) hC hl (fun c hc => ?_)
    unfold rowsK at hk
    exact List.all_eq_true.mp (List.all_eq_true.mp hk x hx) c hc
  clear hr0_0 hr0_3 bel
  generalize tin 1 8 (l0_3.length : Int) = b1 at *
  generalize tin 0 3 a0_4 = b3 at *
  generalize tin 0 (l0_3.length : Int) a0_1 = b4 at *
  generalize tin 0 (wrap64 ((l0_3.length : Int) - a0_1)) a0_2 = b5 at *
  generalize colsB l0_0 = b6 at *
  cases b1 with
  | false =>
    obtain rfl : false = r := by simpa using h
    have I1 := Aside0.mk i1
    clear i1 i3 i4 i5 hcol hrow h
    go_enter Tryd.func8, Tryd.ntmps8
    go_wp2_with ((go_at_call 22; (with_reducible refine (I1.out _).mono ?_); rintro e w' ⟨rfl, ⟨nd, rfl⟩⟩))
    go_ret
    exact ⟨rfl, by repeat (first | exact HB.out _ | apply pw_below_drewN)⟩
  | true =>
  have I1 := Aside0.mk i1
  clear i1
  rw [if_pos rfl] at h
  by_cases c8 : (l0_0.length : Int) > 8
  · rw [if_pos c8] at h
    obtain rfl : false = r := by simpa using h
    have d8 : decide ((l0_0.length : Int) > 8) = true := decide_eq_true c8
    clear i3 i4 i5 hcol hrow h
    go_enter Tryd.func8, Tryd.ntmps8
    go_wp2_with ((go_at_call 22; (with_reducible refine (I1.out _).mono ?_); rintro e w' ⟨rfl, ⟨nd, rfl⟩⟩))
    go_ret
    exact ⟨rfl, by repeat (first | exact HB.out _ | apply pw_below_drewN)⟩
  rw [if_neg c8] at h
  have d8 : decide ((l0_0.length : Int) > 8) = false := decide_eq_false c8
  cases b3 with
  | false =>
    obtain rfl : false = r := by simpa using h
    have I3 := Aside0.mk i3
    clear i3 i4 i5 hcol hrow h
    go_enter Tryd.func8, Tryd.ntmps8
    go_wp2_with (first | (go_at_call 22; (with_reducible refine (I1.out _).mono ?_); rintro e w' ⟨rfl, ⟨nd, rfl⟩⟩) | (go_at_call 22; (with_reducible refine (I3.out _).mono ?_); rintro e w' ⟨rfl, ⟨nd, rfl⟩⟩))
    go_ret
    exact ⟨rfl, by repeat (first | exact HB.out _ | apply pw_below_drewN)⟩
  | true =>
  have I3 := Aside0.mk i3
  clear i3
  rw [if_pos rfl] at h
  cases b4 with
  | false =>
    obtain rfl : false = r := by simpa using h
    have I4 := Aside0.mk i4
    clear i4 i5 hcol hrow h
    go_enter Tryd.func8, Tryd.ntmps8
    go_wp2_with (first | (go_at_call 22; (with_reducible refine (I1.out _).mono ?_); rintro e w' ⟨rfl, ⟨nd, rfl⟩⟩) | (go_at_call 22; (with_reducible refine (I3.out _).mono ?_); rintro e w' ⟨rfl, ⟨nd, rfl⟩⟩) | (go_at_call 22; (with_reducible refine (I4.out _).mono ?_); rintro e w' ⟨rfl, ⟨nd, rfl⟩⟩))
    go_ret
    exact ⟨rfl, by repeat (first | exact HB.out _ | apply pw_below_drewN)⟩
  | true =>
  have I4 := Aside0.mk i4
  clear i4
  rw [if_pos rfl] at h
  cases b5 with
  | false =>
    obtain rfl : false = r := by simpa using h
    have I5 := Aside0.mk i5
    clear i5 hcol hrow h
    go_enter Tryd.func8, Tryd.ntmps8
    go_wp2_with (first | (go_at_call 22; (with_reducible refine (I1.out _).mono ?_); rintro e w' ⟨rfl, ⟨nd, rfl⟩⟩) | (go_at_call 22; (with_reducible refine (I3.out _).mono ?_); rintro e w' ⟨rfl, ⟨nd, rfl⟩⟩) | (go_at_call 22; (with_reducible refine (I4.out _).mono ?_); rintro e w' ⟨rfl, ⟨nd, rfl⟩⟩) | (go_at_call 22; (with_reducible refine (I5.out _).mono ?_); rintro e w' ⟨rfl, ⟨nd, rfl⟩⟩))
    go_ret
    exact ⟨rfl, by repeat (first | exact HB.out _ | apply pw_below_drewN)⟩
  | true =>
  have I5 := Aside0.mk i5
  clear i5
  rw [if_pos rfl] at h
  cases b6 with
  | true =>
    obtain rfl : false = r := by simpa using h
    have IC := Aside0.mk hcol
    clear hcol hrow h
    go_enter Tryd.func8, Tryd.ntmps8
    go_wp2_with (first | (go_at_call 22; (with_reducible refine (I1.out _).mono ?_); rintro e w' ⟨rfl, ⟨nd, rfl⟩⟩) | (go_at_call 22; (with_reducible refine (I3.out _).mono ?_); rintro e w' ⟨rfl, ⟨nd, rfl⟩⟩) | (go_at_call 22; (with_reducible refine (I4.out _).mono ?_); rintro e w' ⟨rfl, ⟨nd, rfl⟩⟩) | (go_at_call 22; (with_reducible refine (I5.out _).mono ?_); rintro e w' ⟨rfl, ⟨nd, rfl⟩⟩) | (go_at_call 24; (with_reducible refine (IC.out _ (by repeat (first | exact HB.out _ | apply pw_below_drewN))).mono ?_); rintro e wc ⟨rfl, hbc⟩; have HBC := Aside0.mk (below_step (by repeat (first | exact HB.out _ | apply pw_below_drewN)) hbc); have HKC := Aside0.mk (blk_below (by (repeat (first | exact blk_new _ _ | refine blk_drewN ?_ _)) : _) hbc); have hz3 : wc.cell? ⟨w.heap.size, 3, none⟩ = some (.slice A0_3 l0_3.length c0_3) := (blk_cell HKC.out 3).trans rfl; have hlw : w.heap.size < wc.heap.size := blk_lt HKC.out; have hnw : ¬ w.heap.size = wc.heap.size := Nat.ne_of_lt hlw; clear hbc))
    go_ret
    exact ⟨rfl, HBC.out⟩
  | false =>
  have IC := Aside0.mk hcol
  clear hcol
  rw [if_neg (by simp)] at h
  by_cases hk : rowsK k l0_3 = true
  case neg => rw [if_neg hk] at h; cases h
  rw [if_pos hk] at h
  obtain rfl := Option.some.inj h
  have IR := Aside0.mk (hrow hk)
  clear hrow h hk
  go_enter Tryd.func8, Tryd.ntmps8
  go_wp2_with (first | (go_at_call 22; (with_reducible refine (I1.out _).mono ?_); rintro e w' ⟨rfl, ⟨nd, rfl⟩⟩) | (go_at_call 22; (with_reducible refine (I3.out _).mono ?_); rintro e w' ⟨rfl, ⟨nd, rfl⟩⟩) | (go_at_call 22; (with_reducible refine (I4.out _).mono ?_); rintro e w' ⟨rfl, ⟨nd, rfl⟩⟩) | (go_at_call 22; (with_reducible refine (I5.out _).mono ?_); rintro e w' ⟨rfl, ⟨nd, rfl⟩⟩) | (go_at_call 24; (with_reducible refine (IC.out _ (by repeat (first | exact HB.out _ | apply pw_below_drewN))).mono ?_); rintro e wc ⟨rfl, hbc⟩; have HBC := Aside0.mk (below_step (by repeat (first | exact HB.out _ | apply pw_below_drewN)) hbc); have HKC := Aside0.mk (blk_below (by (repeat (first | exact blk_new _ _ | refine blk_drewN ?_ _)) : _) hbc); have hz3 : wc.cell? ⟨w.heap.size, 3, none⟩ = some (.slice A0_3 l0_3.length c0_3) := (blk_cell HKC.out 3).trans rfl; have hlw : w.heap.size < wc.heap.size := blk_lt HKC.out; have hnw : ¬ w.heap.size = wc.heap.size := Nat.ne_of_lt hlw; clear hbc) | ((with_reducible refine gate_dst (N := 3) rfl ?_); refine box_event ?hg (N := 3) ?hd (cs := #[.nilFunc]) (t := 33) ?hr ?_; (case hd => rfl); (case hg => rfl); (case hr => first | (go_simp; done) | (go_simp; rfl)); intro gb hgb w4 hbox hb; have hbc : w4.cell? ⟨gb, 0, none⟩ = some .nilFunc := (blk_cell hbox 0).trans rfl; have hbf : w4.frozen? ⟨gb, 0, none⟩ = false := blk_frozen hbox 0; have hlw4 : w.heap.size < gb := (by rw [hgb]; exact hlw); have hz34 : (w4.setCell ⟨gb, 0, none⟩ (.func (.func 27) #[] #[])).cell? ⟨w.heap.size, 3, none⟩ = some (.slice A0_3 l0_3.length c0_3) := (World.cell?_setCell_other _ _ _ _ (by intro h_; have h2_ := congrArg Addr.block h_; dsimp only at h2_; omega)).trans ((hb.cell hlw).trans hz3); have HQ1 := Aside0.mk (below_set (j := 0) (v := .func (.func 27) #[] #[]) (below_step HBC.out hb) (Nat.le_of_lt hlw4)); have HQ2 := Aside0.mk (World.cell?_setCell_same w4 ⟨gb, 0, none⟩ (.func (.func 27) #[] #[]) hbc); clear hgb hbox hb hlw4) | (go_at_call 28; (with_reducible refine (IR.out _ gb HQ1.out HQ2.out).mono ?_); rintro e wd ⟨rfl, hbd⟩; have HBD := Aside0.mk (below_step HQ1.out hbd); clear hbd))
  go_ret
  exact ⟨rfl, HBD.out⟩
end Go.Proofs.YtnednnnegofhkaaDoor.Pr
namespace Go.Proofs.YtnednnnegofhkaaDoor.Pr
open Go.RowKit Go.Proofs.YtnednnnegofhkaaDoorW.PrintWords Go.Proofs.YtnednnnegofhkaaDoorW.PrintLast Go.Proofs.YtnednnnegofhkaaDoorW.PrintMore
attribute [local go_sem] max2_int min2_int max_two min_two max_three min_three max_four min_four
set_option linter.unusedVariables false
set_option linter.unusedSimpArgs false
def impl_TblTable_part.f (l0_0 : List (S29)) (a0_1 : Int) (a0_2 : Int) (l0_3 : List (S32)) (a0_4 : Int) (a1 : Int) : Option (Int) := if a1 < a0_1 then (some 0) else (if a1 ≥ (wrap64 ((l0_3.length : Int) - a0_2)) then (some 2) else (some 1))
set_option maxHeartbeats 8000000 in
set_option maxRecDepth 100000 in
theorem impl_TblTable_part.calls (A0_0 : Option Addr) (c0_0 : Nat) (l0_0 : List (S29)) (a0_1 : Int) (a0_2 : Int) (A0_3 : Option Addr) (c0_3 : Nat) (l0_3 : List (S32)) (a0_4 : Int) (a1 : Int) (r : Int) (w : World) (hr0_0 : Kd.C k29 w A0_0 l0_0.length l0_0) (hc0_0 : l0_0.length ≤ c0_0) (hr0_3 : Kd.C k32 w A0_3 l0_3.length l0_3) (hc0_3 : l0_3.length ≤ c0_3) (h : impl_TblTable_part.f l0_0 a0_1 a0_2 l0_3 a0_4 a1 = some r) :
  Calls Tryd.prog 35 #[.agg #[.slice A0_0 l0_0.length c0_0, .int .i64 a0_1, .int .i64 a0_2, .slice A0_3 l0_3.length c0_3, .int .i64 a0_4], .int .i64 a1] w fun e w' => e = .returned (.int .i64 r) ∧ Below w.heap.size w w' := by
 have hu26 := Tryd.underlying26;have HR0_0 := Aside0.mk hr0_0;have HC0_0 := Aside0.mk hc0_0;clear hr0_0 hc0_0;have HR0_3 := Aside0.mk hr0_3;have HC0_3 := Aside0.mk hc0_3;clear hr0_3 hc0_3;have HB := Aside0.mk (Below.refl w.heap.size w);have H := h;unfold impl_TblTable_part.f at H;clear h;by_cases c3 : a1 < a0_1;(·rw [if_pos c3] at H;have ae : decide (a1 < a0_1) = true := decide_eq_true c3;clear c3;obtain rfl := Option.some.inj H;go_enter Tryd.func35, Tryd.ntmps35;(go_wp2_with (first | ((with_reducible refine gate_dst (N := 2) rfl ?_); refine bx_ 2 #[.slice A0_0 l0_0.length c0_0, .int .i64 a0_1, .int .i64 a0_2, .slice A0_3 l0_3.length c0_3, .int .i64 a0_4] 26 ?_; intro ac hg w4 hbox hb; have n0_ := Aside0.mk (below_step (bl_ HB.out) hb); have n1_ := Aside0.mk (hbox); have n2_ := Aside0.mk ((sz_ (below_size (bl_ HB.out)) hg : w.heap.size ≤ ac)); have n3_ := Aside0.mk n2_.out; replace HB := n0_; have aa := n1_; have ad := n2_; have ab := n3_; clear n0_ n1_ n2_ n3_; clear hb hbox hg; have ax := c5_ aa.out)));go_ret;exact ⟨by first | rfl | (simp [errW_none, errW_some] <;> rfl) | (simp [*, errW_none, errW_some] <;> rfl), bl_ HB.out⟩)
 rw [if_neg c3] at H;have ae : decide (a1 < a0_1) = false := decide_eq_false c3;clear c3;by_cases c6 : a1 ≥ (wrap64 ((l0_3.length : Int) - a0_2));(·rw [if_pos c6] at H;have af : decide ((wrap64 ((l0_3.length : Int) - a0_2)) ≤ a1) = true := decide_eq_true c6;clear c6;obtain rfl := Option.some.inj H;go_enter Tryd.func35, Tryd.ntmps35;(go_wp2_with (first | ((with_reducible refine gate_dst (N := 2) rfl ?_); refine bx_ 2 #[.slice A0_0 l0_0.length c0_0, .int .i64 a0_1, .int .i64 a0_2, .slice A0_3 l0_3.length c0_3, .int .i64 a0_4] 26 ?_; intro ac hg w7 hbox hb; have n0_ := Aside0.mk (below_step (bl_ HB.out) hb); have n1_ := Aside0.mk (hbox); have n2_ := Aside0.mk ((sz_ (below_size (bl_ HB.out)) hg : w.heap.size ≤ ac)); have n3_ := Aside0.mk n2_.out; replace HB := n0_; have aa := n1_; have ad := n2_; have ab := n3_; clear n0_ n1_ n2_ n3_; clear hb hbox hg; have aJ := c5_ aa.out)));go_ret;exact ⟨by first | rfl | (simp [errW_none, errW_some] <;> rfl) | (simp [*, errW_none, errW_some] <;> rfl), bl_ HB.out⟩)
 rw [if_neg c6] at H;have af : decide ((wrap64 ((l0_3.length : Int) - a0_2)) ≤ a1) = false := decide_eq_false c6;clear c6;obtain rfl := Option.some.inj H;go_enter Tryd.func35, Tryd.ntmps35;(go_wp2_with (first | ((with_reducible refine gate_dst (N := 2) rfl ?_); refine bx_ 2 #[.slice A0_0 l0_0.length c0_0, .int .i64 a0_1, .int .i64 a0_2, .slice A0_3 l0_3.length c0_3, .int .i64 a0_4] 26 ?_; intro ac hg w9 hbox hb; have n0_ := Aside0.mk (below_step (bl_ HB.out) hb); have n1_ := Aside0.mk (hbox); have n2_ := Aside0.mk ((sz_ (below_size (bl_ HB.out)) hg : w.heap.size ≤ ac)); have n3_ := Aside0.mk n2_.out; replace HB := n0_; have aa := n1_; have ad := n2_; have ab := n3_; clear n0_ n1_ n2_ n3_; clear hb hbox hg; have an := c5_ aa.out)));go_ret;exact ⟨by first | rfl | (simp [errW_none, errW_some] <;> rfl) | (simp [*, errW_none, errW_some] <;> rfl), bl_ HB.out⟩
end Go.Proofs.YtnednnnegofhkaaDoor.Pr
namespace Go.Proofs.YtnednnnegofhkaaDoor.Pr
open Go.RowKit Go.Proofs.YtnednnnegofhkaaDoorW.PrintWords Go.Proofs.YtnednnnegofhkaaDoorW.PrintLast Go.Proofs.YtnednnnegofhkaaDoorW.PrintMore
attribute [local go_sem] max2_int min2_int max_two min_two max_three min_three max_four min_four
set_option linter.unusedVariables false
set_option linter.unusedSimpArgs false
def impl_GrdCell_meets.f (a0_0 : Int) (a0_1 : Int) (a0_2 : Int) (a0_3 : Int) (a0_4 : Int) (a1_0 : Int) (a1_1 : Int) (a1_2 : Int) (a1_3 : Int) (a1_4 : Int) : Option (Bool) := if a0_0 < (wrap64 (a1_0 + a1_2)) then (if a1_0 < (wrap64 (a0_0 + a0_2)) then (if a0_1 < (wrap64 (a1_1 + a1_3)) then (some (decide (a1_1 < (wrap64 (a0_1 + a0_3))))) else (some false)) else (some false)) else (some false)
abbrev qa38 := @Aside0.mk
set_option maxHeartbeats 8000000 in
set_option maxRecDepth 100000 in
theorem impl_GrdCell_meets.calls (a0_0 : Int) (a0_1 : Int) (a0_2 : Int) (a0_3 : Int) (a0_4 : Int) (a1_0 : Int) (a1_1 : Int) (a1_2 : Int) (a1_3 : Int) (a1_4 : Int) (r : Bool) (w : World) (h : impl_GrdCell_meets.f a0_0 a0_1 a0_2 a0_3 a0_4 a1_0 a1_1 a1_2 a1_3 a1_4 = some r) :
  Calls Tryd.prog 38 #[.agg #[.int .i64 a0_0, .int .i64 a0_1, .int .i64 a0_2, .int .i64 a0_3, .int .i64 a0_4], .agg #[.int .i64 a1_0, .int .i64 a1_1, .int .i64 a1_2, .int .i64 a1_3, .int .i64 a1_4]] w fun e w' => e = .returned (.bool r) ∧ Below w.heap.size w w' := by
 have hu64 := Tryd.underlying64;have HB := qa38 (Below.refl w.heap.size w);have H := h;unfold impl_GrdCell_meets.f at H;clear h;by_cases c3 : a0_0 < (wrap64 (a1_0 + a1_2))
 ·rw [if_pos c3] at H;have am : decide (a0_0 < (wrap64 (a1_0 + a1_2))) = true := decide_eq_true c3;clear c3;by_cases c4 : a1_0 < (wrap64 (a0_0 + a0_2))
  ·rw [if_pos c4] at H;have al : decide (a1_0 < (wrap64 (a0_0 + a0_2))) = true := decide_eq_true c4;clear c4;by_cases c5 : a0_1 < (wrap64 (a1_1 + a1_3))
   ·rw [if_pos c5] at H;have ak : decide (a0_1 < (wrap64 (a1_1 + a1_3))) = true := decide_eq_true c5;clear c5;obtain rfl := Option.some.inj H;go_enter Tryd.func38, Tryd.ntmps38;(go_wp2_with (first | ((with_reducible refine gate_dst (N := 2) rfl ?_); refine bx_ 2 #[.int .i64 a0_0, .int .i64 a0_1, .int .i64 a0_2, .int .i64 a0_3, .int .i64 a0_4] 64 ?_; intro ac hg w6 hbox hb; have n0_ := qa38 (below_step (bl_ HB.out) hb); have n1_ := qa38 (hbox); have n2_ := qa38 ((sz_ (below_size (bl_ HB.out)) hg : w.heap.size ≤ ac)); have n3_ := qa38 n2_.out; replace HB := n0_; have aa := n1_; have aj := n2_; have ad := n3_; clear n0_ n1_ n2_ n3_; clear hb hbox hg) | ((with_reducible refine gate_dst (N := 3) rfl ?_); refine bx_ 3 #[.int .i64 a1_0, .int .i64 a1_1, .int .i64 a1_2, .int .i64 a1_3, .int .i64 a1_4] 64 ?_; intro ag hg w7 hbox hb; have n0_ := qa38 (blk_below (g := ac) (kb_ aa.out) hb); have n1_ := qa38 (below_step (bl_ HB.out) hb); have n2_ := qa38 (hbox); have n3_ := qa38 ((sz_ (below_size (bl_ HB.out)) hg : w.heap.size ≤ ag)); have n4_ := qa38 n3_.out; have n5_ := qa38 ((nl_ (blk_lt (g := ac) (kb_ aa.out)) hg : ac ≠ ag)); have n6_ := qa38 (Ne.symm n5_.out); replace aa := n0_; replace HB := n1_; have ab := n2_; have ai := n3_; have ah := n4_; have af := n5_; have ae := n6_; clear n0_ n1_ n2_ n3_ n4_ n5_ n6_; clear hb hbox hg; have hnb8 := af.out; have hnc8 := ae.out; have bC := c5_ aa.out; have bn := c5_ ab.out)));go_ret
    exact ⟨by first | rfl | (simp [errW_none, errW_some] <;> rfl) | (simp [*, errW_none, errW_some] <;> rfl), bl_ HB.out⟩
   rw [if_neg c5] at H;have ak : decide (a0_1 < (wrap64 (a1_1 + a1_3))) = false := decide_eq_false c5;clear c5;obtain rfl := Option.some.inj H;go_enter Tryd.func38, Tryd.ntmps38;(go_wp2_with (first | ((with_reducible refine gate_dst (N := 2) rfl ?_); refine bx_ 2 #[.int .i64 a0_0, .int .i64 a0_1, .int .i64 a0_2, .int .i64 a0_3, .int .i64 a0_4] 64 ?_; intro ac hg w11 hbox hb; have n0_ := qa38 (below_step (bl_ HB.out) hb); have n1_ := qa38 (hbox); have n2_ := qa38 ((sz_ (below_size (bl_ HB.out)) hg : w.heap.size ≤ ac)); have n3_ := qa38 n2_.out; replace HB := n0_; have aa := n1_; have aj := n2_; have ad := n3_; clear n0_ n1_ n2_ n3_; clear hb hbox hg) | ((with_reducible refine gate_dst (N := 3) rfl ?_); refine bx_ 3 #[.int .i64 a1_0, .int .i64 a1_1, .int .i64 a1_2, .int .i64 a1_3, .int .i64 a1_4] 64 ?_; intro ag hg w12 hbox hb; have n0_ := qa38 (blk_below (g := ac) (kb_ aa.out) hb); have n1_ := qa38 (below_step (bl_ HB.out) hb); have n2_ := qa38 (hbox); have n3_ := qa38 ((sz_ (below_size (bl_ HB.out)) hg : w.heap.size ≤ ag)); have n4_ := qa38 n3_.out; have n5_ := qa38 ((nl_ (blk_lt (g := ac) (kb_ aa.out)) hg : ac ≠ ag)); have n6_ := qa38 (Ne.symm n5_.out); replace aa := n0_; replace HB := n1_; have ab := n2_; have ai := n3_; have ah := n4_; have af := n5_; have ae := n6_; clear n0_ n1_ n2_ n3_ n4_ n5_ n6_; clear hb hbox hg; have hnb13 := af.out; have hnc13 := ae.out; have aF := c5_ aa.out; have bf := c5_ ab.out)));go_ret
   exact ⟨by first | rfl | (simp [errW_none, errW_some] <;> rfl) | (simp [*, errW_none, errW_some] <;> rfl), bl_ HB.out⟩
  rw [if_neg c4] at H;have al : decide (a1_0 < (wrap64 (a0_0 + a0_2))) = false := decide_eq_false c4;clear c4;obtain rfl := Option.some.inj H;go_enter Tryd.func38, Tryd.ntmps38;(go_wp2_with (first | ((with_reducible refine gate_dst (N := 2) rfl ?_); refine bx_ 2 #[.int .i64 a0_0, .int .i64 a0_1, .int .i64 a0_2, .int .i64 a0_3, .int .i64 a0_4] 64 ?_; intro ac hg w16 hbox hb; have n0_ := qa38 (below_step (bl_ HB.out) hb); have n1_ := qa38 (hbox); have n2_ := qa38 ((sz_ (below_size (bl_ HB.out)) hg : w.heap.size ≤ ac)); have n3_ := qa38 n2_.out; replace HB := n0_; have aa := n1_; have aj := n2_; have ad := n3_; clear n0_ n1_ n2_ n3_; clear hb hbox hg) | ((with_reducible refine gate_dst (N := 3) rfl ?_); refine bx_ 3 #[.int .i64 a1_0, .int .i64 a1_1, .int .i64 a1_2, .int .i64 a1_3, .int .i64 a1_4] 64 ?_; intro ag hg w17 hbox hb; have n0_ := qa38 (blk_below (g := ac) (kb_ aa.out) hb); have n1_ := qa38 (below_step (bl_ HB.out) hb); have n2_ := qa38 (hbox); have n3_ := qa38 ((sz_ (below_size (bl_ HB.out)) hg : w.heap.size ≤ ag)); have n4_ := qa38 n3_.out; have n5_ := qa38 ((nl_ (blk_lt (g := ac) (kb_ aa.out)) hg : ac ≠ ag)); have n6_ := qa38 (Ne.symm n5_.out); replace aa := n0_; replace HB := n1_; have ab := n2_; have ai := n3_; have ah := n4_; have af := n5_; have ae := n6_; clear n0_ n1_ n2_ n3_ n4_ n5_ n6_; clear hb hbox hg; have hnb18 := af.out; have hnc18 := ae.out; have a5 := c5_ aa.out; have aE := c5_ ab.out)));go_ret
  exact ⟨by first | rfl | (simp [errW_none, errW_some] <;> rfl) | (simp [*, errW_none, errW_some] <;> rfl), bl_ HB.out⟩
 rw [if_neg c3] at H;have am : decide (a0_0 < (wrap64 (a1_0 + a1_2))) = false := decide_eq_false c3;clear c3;obtain rfl := Option.some.inj H;go_enter Tryd.func38, Tryd.ntmps38;(go_wp2_with (first | ((with_reducible refine gate_dst (N := 2) rfl ?_); refine bx_ 2 #[.int .i64 a0_0, .int .i64 a0_1, .int .i64 a0_2, .int .i64 a0_3, .int .i64 a0_4] 64 ?_; intro ac hg w21 hbox hb; have n0_ := qa38 (below_step (bl_ HB.out) hb); have n1_ := qa38 (hbox); have n2_ := qa38 ((sz_ (below_size (bl_ HB.out)) hg : w.heap.size ≤ ac)); have n3_ := qa38 n2_.out; replace HB := n0_; have aa := n1_; have aj := n2_; have ad := n3_; clear n0_ n1_ n2_ n3_; clear hb hbox hg) | ((with_reducible refine gate_dst (N := 3) rfl ?_); refine bx_ 3 #[.int .i64 a1_0, .int .i64 a1_1, .int .i64 a1_2, .int .i64 a1_3, .int .i64 a1_4] 64 ?_; intro ag hg w22 hbox hb; have n0_ := qa38 (blk_below (g := ac) (kb_ aa.out) hb); have n1_ := qa38 (below_step (bl_ HB.out) hb); have n2_ := qa38 (hbox); have n3_ := qa38 ((sz_ (below_size (bl_ HB.out)) hg : w.heap.size ≤ ag)); have n4_ := qa38 n3_.out; have n5_ := qa38 ((nl_ (blk_lt (g := ac) (kb_ aa.out)) hg : ac ≠ ag)); have n6_ := qa38 (Ne.symm n5_.out); replace aa := n0_; replace HB := n1_; have ab := n2_; have ai := n3_; have ah := n4_; have af := n5_; have ae := n6_; clear n0_ n1_ n2_ n3_ n4_ n5_ n6_; clear hb hbox hg; have hnb23 := af.out; have hnc23 := ae.out; have bq := c5_ aa.out; have aG := c5_ ab.out)));go_ret
 exact ⟨by first | rfl | (simp [errW_none, errW_some] <;> rfl) | (simp [*, errW_none, errW_some] <;> rfl), bl_ HB.out⟩
end Go.Proofs.YtnednnnegofhkaaDoor.Pr
namespace Go.Proofs.YtnednnnegofhkaaDoor.Pr
open Go.RowKit Go.Proofs.YtnednnnegofhkaaDoorW.PrintWords Go.Proofs.YtnednnnegofhkaaDoorW.PrintLast Go.Proofs.YtnednnnegofhkaaDoorW.PrintMore
attribute [local go_sem] max2_int min2_int max_two min_two max_three min_three max_four min_four
set_option linter.unusedVariables false
set_option linter.unusedSimpArgs false
def grdV (x : S64) : Value := .agg #[.int .i64 x.f0, .int .i64 x.f1, .int .i64 x.f2, .int .i64 x.f3, .int .i64 x.f4]
set_option maxHeartbeats 4000000 in
theorem idxGrd_calls (p : S64 → Bool) (g : Nat) (fst lb : Array Value) (eg : ∀ args w, (callFunc g args).run Tryd.prog w = .ok (.enter g args) w) (A : Option Addr) (c : Nat) (l : List S64) (w : World) (hr : Kd.C k64 w A l.length l) (hc : l.length ≤ c)
    (hp : ∀ (W : World) (x : S64), x ∈ l → Below w.heap.size w W → Calls Tryd.prog g (fst.push (grdV x) ++ lb) W fun e w' => e = .returned (.bool (p x)) ∧ Below W.heap.size W w') :
    Calls Tryd.prog 50 #[.slice A l.length c, .func (.func g) fst lb] w fun e w' => e = .returned (.int .i64 (idxOf p l)) ∧ Below w.heap.size w w' := by
  have HR := Aside0.mk hr
  have HP := Aside0.mk hp
  have hm := Kd.C_max hr
  clear hr hp
  go_enter Tryd.func50, Tryd.ntmps50
  go_wp2
  go_loopg [5, 8] l.length (fun gk v5 v8 wr => ∃ k : Nat, k ≤ l.length ∧ l.length - k ≤ gk ∧ v8 = .int .i64 k ∧ Aside0 (Below w.heap.size w wr) ∧ Aside0 (∀ j x, j < k → l[j]? = some x → p x = false))
  case atStart => exact ⟨0, Nat.zero_le _, by omega, rfl, ⟨Below.refl _ w⟩, ⟨fun j x hj => absurd hj (Nat.not_lt_zero _)⟩⟩
  case round =>
    obtain ⟨k, hk, hg, rfl, BW, HN⟩ := hrel
    by_cases hlt : k < l.length
    · have hltz : (k : Int) < (l.length : Int) := by omega
      obtain ⟨ad, eA, hx0, hx1, hx2, hx3, hx4⟩ := at_T64 HR.out (k : Int) (by omega) hltz
      cases eA
      replace hx0 := (BW.out.cell (World.block_lt_of_cell? w _ hx0)).trans hx0
      replace hx1 := (BW.out.cell (World.block_lt_of_cell? w _ hx1)).trans hx1
      replace hx2 := (BW.out.cell (World.block_lt_of_cell? w _ hx2)).trans hx2
      replace hx3 := (BW.out.cell (World.block_lt_of_cell? w _ hx3)).trans hx3
      replace hx4 := (BW.out.cell (World.block_lt_of_cell? w _ hx4)).trans hx4
      rw [Int.toNat_natCast] at hx0 hx1 hx2 hx3 hx4
      have hmem := getD_at l k z64 hlt
      have hrd : rd_T64 l (k : Int) = l.getD (k : Int).toNat z64 := rfl
      rw [← hrd] at hmem
      have hcall := HP.out wr (rd_T64 l k) (List.mem_of_getElem? hmem) BW.out
      unfold grdV at hcall
      have HM := Aside0.mk hmem
      clear hmem hrd
      cases hq : p (rd_T64 l k) with
      | true =>
        rw [hq] at hcall
        have HQ := Aside0.mk hq
        clear hq
        go_wp2_with ((with_reducible refine hcall.mono ?_); rintro e w' ⟨rfl, hb'⟩)
        go_ret
        exact ⟨by rw [idxOf_hit p l k _ HM.out HQ.out HN.out]; rfl, below_then BW.out BW.out.size hb'⟩
      | false =>
        rw [hq] at hcall
        have HQ := Aside0.mk hq
        clear hq
        go_wp2_with ((with_reducible refine hcall.mono ?_); rintro e w' ⟨rfl, hb'⟩)
        go_roundg (l.length - (k + 1))
        case measure => omega
        case rel =>
          refine ⟨k + 1, by omega, by omega, by go_num, ⟨below_then BW.out BW.out.size hb'⟩, ⟨fun j y hj hy => ?_⟩⟩
          by_cases e : j = k
          · subst e
            rw [HM.out] at hy; cases hy; exact HQ.out
          · exact HN.out j y (by omega) hy
    · have hltz : ¬ (k : Int) < (l.length : Int) := by omega
      have : k = l.length := by omega
      subst this
      go_wp2
      go_ret
      exact ⟨by rw [idxOf_miss p l HN.out]; rfl, BW.out⟩
end Go.Proofs.YtnednnnegofhkaaDoor.Pr
namespace Go.Proofs.YtnednnnegofhkaaDoor.Pr
open Go.RowKit Go.Proofs.YtnednnnegofhkaaDoorW.PrintWords Go.Proofs.YtnednnnegofhkaaDoorW.PrintLast Go.Proofs.YtnednnnegofhkaaDoorW.PrintMore
attribute [local go_sem] max2_int min2_int max_two min_two max_three min_three max_four min_four
set_option linter.unusedVariables false
set_option linter.unusedSimpArgs false
set_option maxHeartbeats 2000000 in
theorem contGrd_calls (p : S64 → Bool) (g : Nat) (fst lb : Array Value) (eg : ∀ args w, (callFunc g args).run Tryd.prog w = .ok (.enter g args) w) (A : Option Addr) (c : Nat) (l : List S64) (w : World) (hr : Kd.C k64 w A l.length l) (hc : l.length ≤ c)
    (hp : ∀ (W : World) (x : S64), x ∈ l → Below w.heap.size w W → Calls Tryd.prog g (fst.push (grdV x) ++ lb) W fun e w' => e = .returned (.bool (p x)) ∧ Below W.heap.size W w') :
    Calls Tryd.prog 37 #[.slice A l.length c, .func (.func g) fst lb] w fun e w' => e = .returned (.bool (l.any p)) ∧ Below w.heap.size w w' := by
  have hcall := fun W (hb : W = w) => idxGrd_calls p g fst lb eg A c l W (hb ▸ hr) hc (hb ▸ hp)
  have HC := Aside0.mk hcall
  clear hcall hr hp hc
  have hi := idxOf_range p l
  have hd : decide (0 ≤ idxOf p l) = l.any p := by
    cases h : l.any p
    · apply decide_eq_false; intro q; have := hi.2.2.mp q; rw [h] at this; cases this
    · exact decide_eq_true (hi.2.2.mpr h)
  have HD := Aside0.mk hd
  clear hd hi
  go_enter Tryd.func37, Tryd.ntmps37
  go_wp2_with (go_at_call 50; refine (HC.out _ rfl).mono ?_; rintro e w' ⟨rfl, hb'⟩)
  go_ret
  exact ⟨by rw [← HD.out]; rfl, hb'⟩
def meetsB (c d : S64) : Bool := decide (c.f0 < wrap64 (d.f0 + d.f2)) && (decide (d.f0 < wrap64 (c.f0 + c.f2)) && (decide (c.f1 < wrap64 (d.f1 + d.f3)) && decide (d.f1 < wrap64 (c.f1 + c.f3))))
theorem meetsB_eq (c d : S64) : impl_GrdCell_meets.f c.f0 c.f1 c.f2 c.f3 c.f4 d.f0 d.f1 d.f2 d.f3 d.f4 = some (meetsB c d) := by
  unfold impl_GrdCell_meets.f meetsB
  by_cases h1 : c.f0 < wrap64 (d.f0 + d.f2) <;> by_cases h2 : d.f0 < wrap64 (c.f0 + c.f2) <;> by_cases h3 : c.f1 < wrap64 (d.f1 + d.f3) <;> simp [h1, h2, h3]
def impl_GrdCell_37.f (l0 : List S64) (a1_0 a1_1 a1_2 a1_3 a1_4 : Int) : Option Bool := some (l0.any (meetsB ⟨a1_0, a1_1, a1_2, a1_3, a1_4⟩))
theorem impl_GrdCell_37.calls (A0 : Option Addr) (c0 : Nat) (l0 : List S64) (a1_0 a1_1 a1_2 a1_3 a1_4 : Int) (r : Bool) (w : World) (hr0 : Kd.C k64 w A0 l0.length l0) (hc0 : l0.length ≤ c0) (h : impl_GrdCell_37.f l0 a1_0 a1_1 a1_2 a1_3 a1_4 = some r) :
    Calls Tryd.prog 37 #[.slice A0 l0.length c0, .func (.func 38) #[.agg #[.int .i64 a1_0, .int .i64 a1_1, .int .i64 a1_2, .int .i64 a1_3, .int .i64 a1_4]] #[]] w fun e w' => e = .returned (.bool r) ∧ Below w.heap.size w w' := by
  obtain rfl := Option.some.inj h
  refine contGrd_calls (meetsB ⟨a1_0, a1_1, a1_2, a1_3, a1_4⟩) 38 _ _ (enters_ Tryd.func38 (by kernel_rfl) rfl) A0 c0 l0 w hr0 hc0 (fun W x _ _ => ?_)
  exact impl_GrdCell_meets.calls a1_0 a1_1 a1_2 a1_3 a1_4 x.f0 x.f1 x.f2 x.f3 x.f4 _ W (meetsB_eq ⟨a1_0, a1_1, a1_2, a1_3, a1_4⟩ x)
end Go.Proofs.YtnednnnegofhkaaDoor.Pr
