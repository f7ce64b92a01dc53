/- A part of what the claim of 'FnTblPart' leans on. -/
import Derived.Test.YtnednnnegofhkaaDoorFnTblPartP0
import Derived.Test.YtnednnnegofhkaaDoorFnTblPartP3
import Derived.Test.YtnednnnegofhkaaDoorFnTblPartPr19
import Derived.Test.YtnednnnegofhkaaDoorFnTblPartP1
import Derived.Test.YtnednnnegofhkaaDoorFnTblPartP2
namespace Go.Proofs.YtnednnnegofhkaaDoor.Pr
open Go.RowKit Go.Proofs.YtnednnnegofhkaaDoorW.PrintWords Go.Proofs.YtnednnnegofhkaaDoorW.PrintLast Go.Proofs.YtnednnnegofhkaaDoorW.PrintMore
attribute [local go_sem] max2_int min2_int max_two min_two max_three min_three max_four min_four
set_option linter.unusedVariables false
set_option linter.unusedSimpArgs false
def spec_l20Open.f (l0 : List Int) : Option (List Int × Int) := if (l0.length : Int) > 2000 then (if 2000 ≤ (l0.length : Int) then (some (l0.take 2000, 0)) else (none)) else (some (l0, 0))
set_option maxHeartbeats 8000000 in
set_option maxRecDepth 100000 in
theorem spec_l20Open.calls (A0 : Option Addr) (c0 : Nat) (l0 : List Int) (r1 : List Int) (r2 : Int) (w0 w : World) (hB : Below w0.heap.size w0 w) (hr0 : Kd.C (Kd.int .u8) w0 A0 l0.length l0) (hc0 : l0.length ≤ c0) (h : spec_l20Open.f l0 = some (r1, r2)) :
  Calls Tryd.prog 20 #[.slice A0 l0.length c0] w fun e w' => ∃ g_ : Nat, e = .returned (.pointer (some ⟨g_, 0, none⟩)) ∧ IsS71 w0 w' g_ r1 r2 ∧ Below w0.heap.size w0 w' ∧ Below w.heap.size w w' := by
 have hu71 := Tryd.underlying71
 have HR0 := Aside0.mk hr0
 have HC0 := Aside0.mk hc0
 clear hr0 hc0
 have HBW := Aside0.mk (Below.refl w.heap.size w)
 have HW0 := Aside0.mk hB.size
 have HB := Aside0.mk hB
 clear hB
 have H := h
 unfold spec_l20Open.f at H
 clear h
 by_cases c2 : (l0.length : Int) > 2000
 ·rw [if_pos c2] at H
  have am : decide (2000 < (l0.length : Int)) = true := decide_eq_true c2
  have al : decide (2000 < l0.length) = true := decide_eq_true (by omega)
  clear c2
  by_cases c3 : 2000 ≤ (l0.length : Int)
  ·rw [if_pos c3] at H
   have c3b0 := eq_true c3
   have c3b1 : decide (2000 ≤ (l0.length : Int)) = true := decide_eq_true c3
   clear c3
   simp only [Option.some.injEq, Prod.mk.injEq] at H
   obtain ⟨rfl, rfl⟩ := H
   obtain ⟨i04, ae, _, af, _⟩ := info_parts info5
   obtain ⟨hcut4, hA4, hC4⟩ := print_take_of (P := Tryd.prog) (Value.int .u8) 0 22 5 .i64 Tryd.underlying22 ae af A0 c0 l0 2000 (by omega) (of_decide_eq_true (by first | (with_reducible assumption) | assumption)) HC0.out
   have aj := Aside0.mk (Kd.C_of_reads (h1 := fun _ => rfl) (hA4 _ (Kd.reads_of_C HR0.out)))
   have HC359 := Aside0.mk hC4
   clear hA4 hC4 ae af
   go_enter Tryd.func20, Tryd.ntmps20
   go_wp2_with (first | ((with_reducible refine gate_dst (N := 10) rfl ?_); refine box_event ?hg (N := 10) ?hd (cs := #[.slice A0 (l0.take 2000).length c0, .int .i64 0]) (t := 71) ?hr ?_; (case hd => rfl); (case hg => rfl); (case hr => go_simp <;> rfl); intro aa hg w5 hbox hb; have n0_ := Aside0.mk (below_step HBW.out hb); have n1_ := Aside0.mk (below_step (by repeat (first | (with_reducible first | exact HB.out | apply below_alloc | apply pw_below_drewN | apply below_drew1) | exact HB.out)) hb); have n2_ := Aside0.mk (hbox); have n3_ := Aside0.mk ((by rw [hg]; exact (below_size (by repeat (first | (with_reducible first | exact HBW.out | apply below_alloc | apply pw_below_drewN | apply below_drew1) | exact HBW.out))) : w.heap.size ≤ aa)); have n4_ := Aside0.mk ((Nat.le_trans HW0.out (by rw [hg]; exact (below_size (by repeat (first | (with_reducible first | exact HBW.out | apply below_alloc | apply pw_below_drewN | apply below_drew1) | exact HBW.out))) : w.heap.size ≤ aa) : w0.heap.size ≤ aa)); clear HBW; have HBW := n0_; replace HB := n1_; have ak := n2_; have ag := n3_; have ac := n4_; clear n0_ n1_ n2_ n3_ n4_; clear hb hbox hg))
   go_ret
   exact ⟨_, rfl, (show IsS71 w0 _ aa (l0.take 2000) 0 from ⟨_, _, by (with_reducible repeat (first | apply blk_drewN | apply blk_drew | apply blk_alloc)); exact ak.out, ac.out, aj.out⟩), by repeat (first | (with_reducible first | exact HB.out | apply below_alloc | apply pw_below_drewN | apply below_drew1 | refine below_set ?_ ac.out) | exact HB.out), by repeat (first | (with_reducible first | exact HBW.out | apply below_alloc | apply pw_below_drewN | apply below_drew1 | refine below_set ?_ ag.out) | exact HBW.out)⟩
  ·rw [if_neg c3] at H
   exact absurd H (by simp)
 ·rw [if_neg c2] at H
  have am : decide (2000 < (l0.length : Int)) = false := decide_eq_false c2
  have al : decide (2000 < l0.length) = false := decide_eq_false (by omega)
  clear c2
  simp only [Option.some.injEq, Prod.mk.injEq] at H
  obtain ⟨rfl, rfl⟩ := H
  go_enter Tryd.func20, Tryd.ntmps20
  go_wp2_with (first | ((with_reducible refine gate_dst (N := 10) rfl ?_); refine box_event ?hg (N := 10) ?hd (cs := #[.slice A0 l0.length c0, .int .i64 0]) (t := 71) ?hr ?_; (case hd => rfl); (case hg => rfl); (case hr => go_simp <;> rfl); intro ab hg w6 hbox hb; have n0_ := Aside0.mk (below_step HBW.out hb); have n1_ := Aside0.mk (below_step (by repeat (first | (with_reducible first | exact HB.out | apply below_alloc | apply pw_below_drewN | apply below_drew1) | exact HB.out)) hb); have n2_ := Aside0.mk (hbox); have n3_ := Aside0.mk ((by rw [hg]; exact (below_size (by repeat (first | (with_reducible first | exact HBW.out | apply below_alloc | apply pw_below_drewN | apply below_drew1) | exact HBW.out))) : w.heap.size ≤ ab)); have n4_ := Aside0.mk ((Nat.le_trans HW0.out (by rw [hg]; exact (below_size (by repeat (first | (with_reducible first | exact HBW.out | apply below_alloc | apply pw_below_drewN | apply below_drew1) | exact HBW.out))) : w.heap.size ≤ ab) : w0.heap.size ≤ ab)); clear HBW; have HBW := n0_; replace HB := n1_; have ah := n2_; have ai := n3_; have ad := n4_; clear n0_ n1_ n2_ n3_ n4_; clear hb hbox hg))
  go_ret
  exact ⟨_, rfl, (show IsS71 w0 _ ab l0 0 from ⟨_, _, by (with_reducible repeat (first | apply blk_drewN | apply blk_drew | apply blk_alloc)); exact ah.out, ad.out, HR0.out⟩), by repeat (first | (with_reducible first | exact HB.out | apply below_alloc | apply pw_below_drewN | apply below_drew1 | refine below_set ?_ ad.out) | exact HB.out), by repeat (first | (with_reducible first | exact HBW.out | apply below_alloc | apply pw_below_drewN | apply below_drew1 | refine below_set ?_ ai.out) | exact HBW.out)⟩
end Go.Proofs.YtnednnnegofhkaaDoor.Pr
namespace Go.Proofs.YtnednnnegofhkaaDoor.Pr
open Go.RowKit Go.Proofs.YtnednnnegofhkaaDoorW.PrintWords Go.Proofs.YtnednnnegofhkaaDoorW.PrintLast Go.Proofs.YtnednnnegofhkaaDoorW.PrintMore
attribute [local go_sem] max2_int min2_int max_two min_two max_three min_three max_four min_four
set_option linter.unusedVariables false
set_option linter.unusedSimpArgs false
def spec_DrawTblPart.f (k : Nat) (l0 : List Int) : Option ((List (S29)) × Int × Int × (List (S32)) × Int × Int) := (spec_l20Open.f l0).bind fun bt429 => ((spec_l20AnyTable.f k bt429.1 bt429.2 8).bind fun bt432 => ((spec_l20Rd_pick.f k bt429.1 bt432.2.2.2.2.2 9).bind fun bt442 => (some (bt432.1, bt432.2.1, bt432.2.2.1, bt432.2.2.2.1, bt432.2.2.2.2.1, wrap64 (bt442.1 - 1)))))
theorem spec_DrawTblPart.mono : ∀ a0 k, LeO (spec_DrawTblPart.f k a0) (spec_DrawTblPart.f (k + 1) a0) := by
  intro a0 k
  unfold spec_DrawTblPart.f
  repeat' first
      | (with_reducible exact spec_l20AnyTable.mono _ _ _ _)
      | (with_reducible exact spec_l20Rd_pick.mono _ _ _ _)
      | (with_reducible exact LeO.refl _)
      | (with_reducible exact LeO.none _)
      | (with_reducible refine LeO.ite ?_ ?_)
      | (with_reducible refine LeO.bind ?_ (fun _ => ?_))
      | exact spec_l20AnyTable.mono _ _ _ _
      | exact spec_l20Rd_pick.mono _ _ _ _
      | exact LeO.none _
      | refine LeO.ite ?_ ?_
      | refine LeO.bind ?_ (fun _ => ?_)
theorem bq10_ {w : World} {g : Nat} {t : TypeId} {cs : Array Value} {v : Value} (h : w.heap[g]? = some (.cells cs t (0, 0))) (i : Nat) (e : cs[i]? = some v) : w.cell? ⟨g, i, none⟩ = some v := (blk_cell h i).trans e
set_option maxHeartbeats 8000000 in
set_option maxRecDepth 100000 in
theorem spec_DrawTblPart.calls (k : Nat) (A0 : Option Addr) (c0 : Nat) (l0 : List Int) (r1 : List (S29)) (r2 : Int) (r3 : Int) (r4 : List (S32)) (r5 : Int) (r6 : Int) (w : World) (hr0 : Kd.C (Kd.int .u8) w A0 l0.length l0) (hc0 : l0.length ≤ c0) (h : spec_DrawTblPart.f k l0 = some (r1, r2, r3, r4, r5, r6)) :
  Calls Tryd.prog 10 #[.slice A0 l0.length c0] w fun e w' => ∃ v0_ v3_ : Value, e = .returned (.tuple #[.agg #[v0_, .int .i64 r2, .int .i64 r3, v3_, .int .i64 r5], .int .i64 r6]) ∧ Kd.R k29 29 w' w.heap.size (fun _ => True) v0_ r1 ∧ Kd.S k32 32 w' w.heap.size (fun _ => True) v3_ r4 ∧ Below w.heap.size w w' := by
 have hu26 := Tryd.underlying26
 have HR0 := Aside0.mk hr0
 have HC0 := Aside0.mk hc0
 clear hr0 hc0
 have HB := Aside0.mk (Below.refl w.heap.size w)
 have H := h
 unfold spec_DrawTblPart.f at H
 clear h
 replace H := Option.bind_eq_some_iff.mp H
 obtain ⟨⟨am, au⟩, A20, H⟩ := H
 (try dsimp only at H)
 have A2 := Aside0.mk A20
 clear A20
 replace H := Option.bind_eq_some_iff.mp H
 obtain ⟨⟨ae, ah, ai, an, ap, aq⟩, A30, H⟩ := H
 (try dsimp only at H)
 have A3 := Aside0.mk A30
 clear A30
 replace H := Option.bind_eq_some_iff.mp H
 obtain ⟨⟨av, aw⟩, A40, H⟩ := H
 (try dsimp only at H)
 have A4 := Aside0.mk A40
 clear A40
 simp only [Option.some.injEq, Prod.mk.injEq] at H
 obtain ⟨rfl, rfl, rfl, rfl, rfl, rfl⟩ := H
 go_enter Tryd.func10, Tryd.ntmps10
 go_wp2_with (first | ((with_reducible refine gate_dst (N := 2) rfl ?_); refine box_event ?hg (N := 2) ?hd (cs := #[.slice none 0 0, .int .i64 0, .int .i64 0, .slice none 0 0, .int .i64 0]) (t := 26) ?hr ?_; (case hd => rfl); (case hg => rfl); (case hr => go_simp <;> rfl); intro ab hg w5 hbox hb; have n0_ := Aside0.mk (below_step (by repeat (first | (with_reducible first | exact HB.out | apply below_alloc | apply pw_below_drewN | apply below_drew1) | exact HB.out)) hb); have n1_ := Aside0.mk (hbox); have n2_ := Aside0.mk ((by rw [hg]; exact (below_size (by repeat (first | (with_reducible first | exact HB.out | apply below_alloc | apply pw_below_drewN | apply below_drew1) | exact HB.out))) : w.heap.size ≤ ab)); have n3_ := Aside0.mk n2_.out; replace HB := n0_; have aa := n1_; have GW428 := n2_; have ag := n3_; clear n0_ n1_ n2_ n3_; clear hb hbox hg) | ((with_reducible refine gate_callee (f := 20) rfl ?_); refine goesL_ (some 6) rfl rfl Tryd.func20 (by kernel_rfl) rfl #[.slice A0 l0.length c0] rfl (by (try simp only [List.map_toArray, List.map_cons, List.map_nil]); first | done | rfl | (simp only [List.length_drop, List.length_take]; rfl)) ?_; (with_reducible refine (spec_l20Open.calls _ _ l0 am au w _ ?side1 ?side2 ?side3 A2.out).mono ?_); (case side1 => repeat (first | (with_reducible first | exact HB.out | apply below_alloc | apply pw_below_drewN | apply below_drew1 | refine below_set ?_ ag.out) | exact HB.out)); (case side2 => exact HR0.out); (case side3 => exact HC0.out); rintro e w6 ⟨aj, rfl, hi, hb, hb2⟩; refine ⟨_, rfl, ?_⟩; have n0_ := Aside0.mk (blk_below (g := ab) (by (with_reducible repeat (first | apply blk_drewN | apply blk_drew | apply blk_alloc)); exact aa.out) hb2); have n1_ := Aside0.mk (hb); have n2_ := Aside0.mk (hi); have n3_ := Aside0.mk (IsS71.ne_blk hi (blk_below (g := ab) (by (with_reducible repeat (first | apply blk_drewN | apply blk_drew | apply blk_alloc)); exact aa.out) hb2) (by decide)); have n4_ := Aside0.mk (Ne.symm (IsS71.ne_blk hi (blk_below (g := ab) (by (with_reducible repeat (first | apply blk_drewN | apply blk_drew | apply blk_alloc)); exact aa.out) hb2) (by decide))); replace aa := n0_; replace HB := n1_; have ac := n2_; have ad := n3_; have af := n4_; clear n0_ n1_ n2_ n3_ n4_; (try clear hb hk hi)) | ((with_reducible refine gate_callee (f := 19) rfl ?_); refine goesL_ (some 8) rfl rfl Tryd.func19 (by kernel_rfl) rfl #[.pointer (some ⟨aj, 0, none⟩), .int .i64 8] rfl (by (try simp only [List.map_toArray, List.map_cons, List.map_nil]) <;> rfl) ?_; (with_reducible refine (spec_l20AnyTable.calls k aj am au 8 ae ah ai an ap aq w _ ?side1 ?side2 A3.out).mono ?_); (case side1 => repeat (first | (with_reducible first | exact ac.out | apply IsS71.alloc | apply IsS71.drewN | apply IsS71.drew | apply IsS71.set_1 | refine IsS71.far ?_ ad.out _) | exact ac.out)); (case side2 => repeat (first | (with_reducible first | exact HB.out | apply below_alloc | apply pw_below_drewN | apply below_drew1 | refine below_set ?_ (IsS71.ge ac.out) | refine below_set ?_ ag.out) | exact HB.out)); rintro e w7 ⟨v433, v438, rfl, ho0, ho1, hi, hb, hk⟩; refine ⟨_, rfl, ?_⟩; have n0_ := Aside0.mk (KeepBut.blk hk (g' := ab) (by (with_reducible repeat (first | apply blk_drewN | apply blk_drew | apply blk_alloc)); exact aa.out) af.out (by simp)); have n1_ := Aside0.mk (Kd.R_lower ho0 (below_size (by repeat (first | (with_reducible first | exact HB.out | apply below_alloc | apply pw_below_drewN | apply below_drew1 | refine below_set ?_ (IsS71.ge ac.out) | refine below_set ?_ ag.out) | exact HB.out)))); have n2_ := Aside0.mk (Kd.S_lower ho1 (below_size (by repeat (first | (with_reducible first | exact HB.out | apply below_alloc | apply pw_below_drewN | apply below_drew1 | refine below_set ?_ (IsS71.ge ac.out) | refine below_set ?_ ag.out) | exact HB.out)))); have n3_ := Aside0.mk (hb); have n4_ := Aside0.mk (hi); replace aa := n0_; have ak := n1_; have al := n2_; replace HB := n3_; replace ac := n4_; clear n0_ n1_ n2_ n3_ n4_; (try clear hb hk hi); (try clear ho0); (try clear ho1)) | ((with_reducible refine gate_callee (f := 34) rfl ?_); refine goesL_ (some 10) rfl rfl Tryd.func34 (by kernel_rfl) rfl #[.pointer (some ⟨aj, 0, none⟩), .int .i64 9] rfl (by (try simp only [List.map_toArray, List.map_cons, List.map_nil]) <;> rfl) ?_; (with_reducible refine (spec_l20Rd_pick.calls k aj am aq 9 av aw w _ ?side1 ?side2 A4.out).mono ?_); (case side1 => repeat (first | (with_reducible first | exact ac.out | apply IsS71.alloc | apply IsS71.drewN | apply IsS71.drew | apply IsS71.set_1 | refine IsS71.far ?_ ad.out _) | exact ac.out)); (case side2 => repeat (first | (with_reducible first | exact HB.out | apply below_alloc | apply pw_below_drewN | apply below_drew1 | refine below_set ?_ (IsS71.ge ac.out) | refine below_set ?_ ag.out) | exact HB.out)); rintro e w8 ⟨rfl, hi, hb, hk⟩; refine ⟨_, rfl, ?_⟩; have n0_ := Aside0.mk (KeepBut.blk hk (g' := ab) (by (with_reducible repeat (first | apply blk_drewN | apply blk_drew | apply blk_alloc)); exact aa.out) af.out (by simp)); have n1_ := Aside0.mk (Kd.R_mono (Kd.R_keep (IsS71.apart (show IsS71 w _ aj am aq from by repeat (first | (with_reducible first | exact ac.out | apply IsS71.alloc | apply IsS71.drewN | apply IsS71.drew | apply IsS71.set_1 | refine IsS71.far ?_ ad.out _) | exact ac.out)) (by (with_reducible repeat (first | apply Kd.R_alloc | apply Kd.R_drewN | apply Kd.R_drew)); exact ak.out) (by decide)) hk (fun _ h => h.2)) (fun _ h => h.1)); have n2_ := Aside0.mk (Kd.S_mono (Kd.S_keep (IsS71.apartS (show IsS71 w _ aj am aq from by repeat (first | (with_reducible first | exact ac.out | apply IsS71.alloc | apply IsS71.drewN | apply IsS71.drew | apply IsS71.set_1 | refine IsS71.far ?_ ad.out _) | exact ac.out)) (by (with_reducible repeat (first | apply Kd.S_alloc | apply Kd.S_drewN | apply Kd.S_drew)); exact al.out) (by decide)) hk (fun _ h => h.2)) (fun _ h => h.1)); have n3_ := Aside0.mk (hb); have n4_ := Aside0.mk (hi); replace aa := n0_; replace ak := n1_; replace al := n2_; replace HB := n3_; replace ac := n4_; clear n0_ n1_ n2_ n3_ n4_; (try clear hb hk hi); obtain ⟨Ao9, co9, eo9⟩ := Kd.R_slice ak.out; subst eo9; have hnb10 := af.out; have hnc10 := ad.out; have aA := bq10_ aa.out 0 rfl; have aD := bq10_ aa.out 1 rfl; have aB := bq10_ aa.out 2 rfl; have aE := bq10_ aa.out 3 rfl; have aG := bq10_ aa.out 4 rfl; have az := blk_frozen aa.out 0; have aC := blk_frozen aa.out 1; have aH := blk_frozen aa.out 2; have aF := blk_frozen aa.out 3; have ay := blk_frozen aa.out 4; obtain ⟨ar, ao, ax⟩ := Kd.S_slice al.out; subst ax))
 refine bodyPost_ret (results_ct rfl _ _ ab 26 #[.slice Ao9 ae.length co9, .int .i64 ah, .int .i64 ai, .slice ar an.length ao, .int .i64 ap] (0, 0) _ rfl (by (with_reducible repeat (first | apply blk_drewN | apply blk_drew | apply blk_alloc)); refine blk_put (cs := #[.slice Ao9 ae.length co9, .int .i64 ah, .int .i64 ai, .slice ar an.length ao, .int .i64 0]) ?_ 4 _ rfl; refine blk_put (cs := #[.slice Ao9 ae.length co9, .int .i64 ah, .int .i64 ai, .slice none 0 0, .int .i64 0]) ?_ 3 _ rfl; refine blk_put (cs := #[.slice Ao9 ae.length co9, .int .i64 ah, .int .i64 0, .slice none 0 0, .int .i64 0]) ?_ 2 _ rfl; refine blk_put (cs := #[.slice Ao9 ae.length co9, .int .i64 0, .int .i64 0, .slice none 0 0, .int .i64 0]) ?_ 1 _ rfl; refine blk_put (cs := #[.slice none 0 0, .int .i64 0, .int .i64 0, .slice none 0 0, .int .i64 0]) ?_ 0 _ rfl; (with_reducible repeat (first | apply blk_drewN | apply blk_drew | apply blk_alloc)); exact aa.out) Tryd.underlying26 rfl (by kernel_rfl)) rfl ?_
 exact ⟨_, _, by first | rfl | (simp [errW_none, errW_some] <;> rfl) | (simp [*, errW_none, errW_some] <;> rfl), by (with_reducible repeat (first | apply Kd.R_alloc | apply Kd.R_drewN | apply Kd.R_drew)); exact Kd.R_mono (Kd.R_far (p := ⟨ab, 4, none⟩) (Kd.R_far (p := ⟨ab, 3, none⟩) (Kd.R_far (p := ⟨ab, 2, none⟩) (Kd.R_far (p := ⟨ab, 1, none⟩) (Kd.R_far (p := ⟨ab, 0, none⟩) (Kd.R_types ak.out aa.out (by decide)) (fun _ hk => hk.2) (.slice Ao9 ae.length co9)) (fun _ hk => hk.2) (.int .i64 ah)) (fun _ hk => hk.2) (.int .i64 ai)) (fun _ hk => hk.2) (.slice ar an.length ao)) (fun _ hk => hk.2) (.int .i64 ap)) (fun _ hk => trivial), by (with_reducible repeat (first | apply Kd.S_alloc | apply Kd.S_drewN | apply Kd.S_drew)); exact Kd.S_mono (Kd.S_far (p := ⟨ab, 4, none⟩) (Kd.S_far (p := ⟨ab, 3, none⟩) (Kd.S_far (p := ⟨ab, 2, none⟩) (Kd.S_far (p := ⟨ab, 1, none⟩) (Kd.S_far (p := ⟨ab, 0, none⟩) (Kd.S_types al.out aa.out (by decide)) (fun _ hk => hk.2) (.slice Ao9 ae.length co9)) (fun _ hk => hk.2) (.int .i64 ah)) (fun _ hk => hk.2) (.int .i64 ai)) (fun _ hk => hk.2) (.slice ar an.length ao)) (fun _ hk => hk.2) (.int .i64 ap)) (fun _ hk => trivial), by repeat (first | (with_reducible first | exact HB.out | apply below_alloc | apply pw_below_drewN | apply below_drew1 | refine below_set ?_ (IsS71.ge ac.out) | refine below_set ?_ ag.out) | exact HB.out)⟩
end Go.Proofs.YtnednnnegofhkaaDoor.Pr
namespace Go.Proofs.YtnednnnegofhkaaDoor.Pr
open Go.RowKit Go.Proofs.YtnednnnegofhkaaDoorW.PrintWords Go.Proofs.YtnednnnegofhkaaDoorW.PrintLast Go.Proofs.YtnednnnegofhkaaDoorW.PrintMore
attribute [local go_sem] max2_int min2_int max_two min_two max_three min_three max_four min_four
set_option linter.unusedVariables false
set_option linter.unusedSimpArgs false
def impl_TblTable_part.f (l0_0 : List (S29)) (a0_1 : Int) (a0_2 : Int) (l0_3 : List (S32)) (a0_4 : Int) (a1 : Int) : Option (Int) := if a1 < a0_1 then (some 0) else (if a1 ≥ (wrap64 ((l0_3.length : Int) - a0_2)) then (some 2) else (some 1))
theorem bq35_ {w : World} {g : Nat} {t : TypeId} {cs : Array Value} {v : Value} (h : w.heap[g]? = some (.cells cs t (0, 0))) (i : Nat) (e : cs[i]? = some v) : w.cell? ⟨g, i, none⟩ = some v := (blk_cell h i).trans e
set_option maxHeartbeats 8000000 in
set_option maxRecDepth 100000 in
theorem impl_TblTable_part.calls (A0_0 : Option Addr) (c0_0 : Nat) (l0_0 : List (S29)) (a0_1 : Int) (a0_2 : Int) (A0_3 : Option Addr) (c0_3 : Nat) (l0_3 : List (S32)) (a0_4 : Int) (a1 : Int) (r : Int) (w : World) (hr0_0 : Kd.C k29 w A0_0 l0_0.length l0_0) (hc0_0 : l0_0.length ≤ c0_0) (hr0_3 : Kd.C k32 w A0_3 l0_3.length l0_3) (hc0_3 : l0_3.length ≤ c0_3) (h : impl_TblTable_part.f l0_0 a0_1 a0_2 l0_3 a0_4 a1 = some r) :
  Calls Tryd.prog 35 #[.agg #[.slice A0_0 l0_0.length c0_0, .int .i64 a0_1, .int .i64 a0_2, .slice A0_3 l0_3.length c0_3, .int .i64 a0_4], .int .i64 a1] w fun e w' => e = .returned (.int .i64 r) ∧ Below w.heap.size w w' := by
 have hu26 := Tryd.underlying26
 have HR0_0 := Aside0.mk hr0_0
 have HC0_0 := Aside0.mk hc0_0
 clear hr0_0 hc0_0
 have HR0_3 := Aside0.mk hr0_3
 have HC0_3 := Aside0.mk hc0_3
 clear hr0_3 hc0_3
 have HB := Aside0.mk (Below.refl w.heap.size w)
 have H := h
 unfold impl_TblTable_part.f at H
 clear h
 by_cases c3 : a1 < a0_1
 ·rw [if_pos c3] at H
  have ae : decide (a1 < a0_1) = true := decide_eq_true c3
  clear c3
  obtain rfl := Option.some.inj H
  go_enter Tryd.func35, Tryd.ntmps35
  go_wp2_with (first | ((with_reducible refine gate_dst (N := 2) rfl ?_); refine box_event ?hg (N := 2) ?hd (cs := #[.slice A0_0 l0_0.length c0_0, .int .i64 a0_1, .int .i64 a0_2, .slice A0_3 l0_3.length c0_3, .int .i64 a0_4]) (t := 26) ?hr ?_; (case hd => rfl); (case hg => rfl); (case hr => go_simp <;> rfl); intro ac hg w4 hbox hb; have n0_ := Aside0.mk (below_step (by repeat (first | (with_reducible first | exact HB.out | apply below_alloc | apply pw_below_drewN | apply below_drew1) | exact HB.out)) hb); have n1_ := Aside0.mk (hbox); have n2_ := Aside0.mk ((by rw [hg]; exact (below_size (by repeat (first | (with_reducible first | exact HB.out | apply below_alloc | apply pw_below_drewN | apply below_drew1) | exact HB.out))) : w.heap.size ≤ ac)); have n3_ := Aside0.mk n2_.out; replace HB := n0_; have aa := n1_; have ad := n2_; have ab := n3_; clear n0_ n1_ n2_ n3_; clear hb hbox hg; have ax := bq35_ aa.out 0 rfl; have aI := bq35_ aa.out 1 rfl; have aC := bq35_ aa.out 2 rfl; have aH := bq35_ aa.out 3 rfl; have aG := bq35_ aa.out 4 rfl; have au := blk_frozen aa.out 0; have ay := blk_frozen aa.out 1; have av := blk_frozen aa.out 2; have aD := blk_frozen aa.out 3; have aq := blk_frozen aa.out 4))
  go_ret
  exact ⟨by first | rfl | (simp [errW_none, errW_some] <;> rfl) | (simp [*, errW_none, errW_some] <;> rfl), by repeat (first | (with_reducible first | exact HB.out | apply below_alloc | apply pw_below_drewN | apply below_drew1 | refine below_set ?_ ab.out) | exact HB.out)⟩
 ·rw [if_neg c3] at H
  have ae : decide (a1 < a0_1) = false := decide_eq_false c3
  clear c3
  by_cases c6 : a1 ≥ (wrap64 ((l0_3.length : Int) - a0_2))
  ·rw [if_pos c6] at H
   have af : decide ((wrap64 ((l0_3.length : Int) - a0_2)) ≤ a1) = true := decide_eq_true c6
   clear c6
   obtain rfl := Option.some.inj H
   go_enter Tryd.func35, Tryd.ntmps35
   go_wp2_with (first | ((with_reducible refine gate_dst (N := 2) rfl ?_); refine box_event ?hg (N := 2) ?hd (cs := #[.slice A0_0 l0_0.length c0_0, .int .i64 a0_1, .int .i64 a0_2, .slice A0_3 l0_3.length c0_3, .int .i64 a0_4]) (t := 26) ?hr ?_; (case hd => rfl); (case hg => rfl); (case hr => go_simp <;> rfl); intro ac hg w7 hbox hb; have n0_ := Aside0.mk (below_step (by repeat (first | (with_reducible first | exact HB.out | apply below_alloc | apply pw_below_drewN | apply below_drew1) | exact HB.out)) hb); have n1_ := Aside0.mk (hbox); have n2_ := Aside0.mk ((by rw [hg]; exact (below_size (by repeat (first | (with_reducible first | exact HB.out | apply below_alloc | apply pw_below_drewN | apply below_drew1) | exact HB.out))) : w.heap.size ≤ ac)); have n3_ := Aside0.mk n2_.out; replace HB := n0_; have aa := n1_; have ad := n2_; have ab := n3_; clear n0_ n1_ n2_ n3_; clear hb hbox hg; have aJ := bq35_ aa.out 0 rfl; have aK := bq35_ aa.out 1 rfl; have aw := bq35_ aa.out 2 rfl; have aL := bq35_ aa.out 3 rfl; have aE := bq35_ aa.out 4 rfl; have aB := blk_frozen aa.out 0; have aA := blk_frozen aa.out 1; have ar := blk_frozen aa.out 2; have aF := blk_frozen aa.out 3; have az := blk_frozen aa.out 4))
   go_ret
   exact ⟨by first | rfl | (simp [errW_none, errW_some] <;> rfl) | (simp [*, errW_none, errW_some] <;> rfl), by repeat (first | (with_reducible first | exact HB.out | apply below_alloc | apply pw_below_drewN | apply below_drew1 | refine below_set ?_ ab.out) | exact HB.out)⟩
  ·rw [if_neg c6] at H
   have af : decide ((wrap64 ((l0_3.length : Int) - a0_2)) ≤ a1) = false := decide_eq_false c6
   clear c6
   obtain rfl := Option.some.inj H
   go_enter Tryd.func35, Tryd.ntmps35
   go_wp2_with (first | ((with_reducible refine gate_dst (N := 2) rfl ?_); refine box_event ?hg (N := 2) ?hd (cs := #[.slice A0_0 l0_0.length c0_0, .int .i64 a0_1, .int .i64 a0_2, .slice A0_3 l0_3.length c0_3, .int .i64 a0_4]) (t := 26) ?hr ?_; (case hd => rfl); (case hg => rfl); (case hr => go_simp <;> rfl); intro ac hg w9 hbox hb; have n0_ := Aside0.mk (below_step (by repeat (first | (with_reducible first | exact HB.out | apply below_alloc | apply pw_below_drewN | apply below_drew1) | exact HB.out)) hb); have n1_ := Aside0.mk (hbox); have n2_ := Aside0.mk ((by rw [hg]; exact (below_size (by repeat (first | (with_reducible first | exact HB.out | apply below_alloc | apply pw_below_drewN | apply below_drew1) | exact HB.out))) : w.heap.size ≤ ac)); have n3_ := Aside0.mk n2_.out; replace HB := n0_; have aa := n1_; have ad := n2_; have ab := n3_; clear n0_ n1_ n2_ n3_; clear hb hbox hg; have an := bq35_ aa.out 0 rfl; have am := bq35_ aa.out 1 rfl; have ao := bq35_ aa.out 2 rfl; have ag := bq35_ aa.out 3 rfl; have ak := bq35_ aa.out 4 rfl; have ai := blk_frozen aa.out 0; have al := blk_frozen aa.out 1; have ap := blk_frozen aa.out 2; have ah := blk_frozen aa.out 3; have aj := blk_frozen aa.out 4))
   go_ret
   exact ⟨by first | rfl | (simp [errW_none, errW_some] <;> rfl) | (simp [*, errW_none, errW_some] <;> rfl), by repeat (first | (with_reducible first | exact HB.out | apply below_alloc | apply pw_below_drewN | apply below_drew1 | refine below_set ?_ ab.out) | exact HB.out)⟩
end Go.Proofs.YtnednnnegofhkaaDoor.Pr
namespace Go.Proofs.YtnednnnegofhkaaDoor.Pr
open Go.RowKit Go.Proofs.YtnednnnegofhkaaDoorW.PrintWords Go.Proofs.YtnednnnegofhkaaDoorW.PrintLast Go.Proofs.YtnednnnegofhkaaDoorW.PrintMore
attribute [local go_sem] max2_int min2_int max_two min_two max_three min_three max_four min_four
set_option linter.unusedVariables false
set_option linter.unusedSimpArgs false
def impl_TblPart.f (k : Nat) (l0_0 : List (S29)) (a0_1 : Int) (a0_2 : Int) (l0_3 : List (S32)) (a0_4 : Int) (a1 : Int) : Option (Int) := (impl_TblOk.f k l0_0 a0_1 a0_2 l0_3 a0_4).bind fun t446 => (if t446 = true then ((impl_in.f a1 0 (wrap64 ((l0_3.length : Int) - 1))).bind fun t447 => (if t447 = true then ((impl_TblTable_part.f l0_0 a0_1 a0_2 l0_3 a0_4 a1).bind fun t448 => (some t448)) else (some (-1)))) else (some (-1)))
theorem impl_TblPart.mono : ∀ a0 a1 a2 a3 a4 a5 k, LeO (impl_TblPart.f k a0 a1 a2 a3 a4 a5) (impl_TblPart.f (k + 1) a0 a1 a2 a3 a4 a5) := by
  intro a0 a1 a2 a3 a4 a5 k
  unfold impl_TblPart.f
  repeat' first
      | (with_reducible exact impl_TblOk.mono _ _ _ _ _ _)
      | (with_reducible exact LeO.refl _)
      | (with_reducible exact LeO.none _)
      | (with_reducible refine LeO.ite ?_ ?_)
      | (with_reducible refine LeO.bind ?_ (fun _ => ?_))
      | exact impl_TblOk.mono _ _ _ _ _ _
      | exact LeO.none _
      | refine LeO.ite ?_ ?_
      | refine LeO.bind ?_ (fun _ => ?_)
theorem bq11_ {w : World} {g : Nat} {t : TypeId} {cs : Array Value} {v : Value} (h : w.heap[g]? = some (.cells cs t (0, 0))) (i : Nat) (e : cs[i]? = some v) : w.cell? ⟨g, i, none⟩ = some v := (blk_cell h i).trans e
abbrev qa11 := @Aside0.mk
abbrev qb11 := @blk_frozen
abbrev qc11 := @pw_below_drewN
set_option maxHeartbeats 8000000 in
set_option maxRecDepth 100000 in
theorem impl_TblPart.calls (k : Nat) (A0_0 : Option Addr) (c0_0 : Nat) (l0_0 : List (S29)) (a0_1 : Int) (a0_2 : Int) (A0_3 : Option Addr) (c0_3 : Nat) (l0_3 : List (S32)) (a0_4 : Int) (a1 : Int) (r : Int) (w : World) (hr0_0 : Kd.C k29 w A0_0 l0_0.length l0_0) (hc0_0 : l0_0.length ≤ c0_0) (hr0_3 : Kd.C k32 w A0_3 l0_3.length l0_3) (hc0_3 : l0_3.length ≤ c0_3) (h : impl_TblPart.f k l0_0 a0_1 a0_2 l0_3 a0_4 a1 = some r) :
  Calls Tryd.prog 11 #[.agg #[.slice A0_0 l0_0.length c0_0, .int .i64 a0_1, .int .i64 a0_2, .slice A0_3 l0_3.length c0_3, .int .i64 a0_4], .int .i64 a1] w fun e w' => e = .returned (.int .i64 r) ∧ Below w.heap.size w w' := by
 have hu26 := Tryd.underlying26
 have ad := qa11 hr0_0
 have ag := qa11 hc0_0
 clear hr0_0 hc0_0
 have ae := qa11 hr0_3
 have af := qa11 hc0_3
 clear hr0_3 hc0_3
 have HB := qa11 (Below.refl w.heap.size w)
 have H := h
 unfold impl_TblPart.f at H
 clear h
 replace H := Option.bind_eq_some_iff.mp H
 obtain ⟨t446, A30, H⟩ := H
 (try dsimp only at H)
 have A3 := qa11 A30
 clear A30
 by_cases c4 : t446 = true
 ·subst c4
  have H1 : ((impl_in.f a1 0 (wrap64 ((l0_3.length : Int) - 1))).bind fun t447 => (if t447 = true then ((impl_TblTable_part.f l0_0 a0_1 a0_2 l0_3 a0_4 a1).bind fun t448 => (some t448)) else (some (-1)))) = some r := by rw [if_pos rfl] at H; exact H
  clear H
  have H := H1
  clear H1
  replace H := Option.bind_eq_some_iff.mp H
  obtain ⟨t447, A50, H⟩ := H
  (try dsimp only at H)
  have A5 := qa11 A50
  clear A50
  by_cases c6 : t447 = true
  ·subst c6
   have H1 : ((impl_TblTable_part.f l0_0 a0_1 a0_2 l0_3 a0_4 a1).bind fun t448 => (some t448)) = some r := by rw [if_pos rfl] at H; exact H
   clear H
   have H := H1
   clear H1
   replace H := Option.bind_eq_some_iff.mp H
   obtain ⟨t448, A70, H⟩ := H
   (try dsimp only at H)
   have A7 := qa11 A70
   clear A70
   obtain rfl := Option.some.inj H
   go_enter Tryd.func11, Tryd.ntmps11
   go_wp2_with (first | ((with_reducible refine gate_dst (N := 2) rfl ?_); (try (refine gate_guard (by rfl) ?_; dsimp only)); refine box_event ?hg (N := 2) ?hd (cs := #[.slice A0_0 l0_0.length c0_0, .int .i64 a0_1, .int .i64 a0_2, .slice A0_3 l0_3.length c0_3, .int .i64 a0_4]) (t := 26) ?hr ?_; (case hd => rfl); (case hg => rfl); (case hr => go_simp <;> rfl); intro ac hg w8 hbox hb; have n0_ := qa11 (below_step (by repeat (first | (with_reducible first | exact HB.out | apply below_alloc | apply qc11 | apply below_drew1) | exact HB.out)) hb); have n1_ := qa11 (hbox); have n2_ := qa11 ((by rw [hg]; exact (below_size (by repeat (first | (with_reducible first | exact HB.out | apply below_alloc | apply qc11 | apply below_drew1) | exact HB.out))) : w.heap.size ≤ ac)); have n3_ := qa11 n2_.out; replace HB := n0_; have aa := n1_; have ah := n2_; have ab := n3_; clear n0_ n1_ n2_ n3_; clear hb hbox hg; have a7 := bq11_ aa.out 0 rfl; have bd := bq11_ aa.out 1 rfl; have ba := bq11_ aa.out 2 rfl; have aZ := bq11_ aa.out 3 rfl; have a9 := bq11_ aa.out 4 rfl; have bc := qb11 aa.out 0; have aY := qb11 aa.out 1; have a8 := qb11 aa.out 2; have bb := qb11 aa.out 3; have a6 := qb11 aa.out 4) | ((with_reducible refine gate_callee (f := 8) rfl ?_); refine goesL_ (some 6) rfl rfl Tryd.func8 (by kernel_rfl) rfl #[.agg #[.slice A0_0 l0_0.length c0_0, .int .i64 a0_1, .int .i64 a0_2, .slice A0_3 l0_3.length c0_3, .int .i64 a0_4]] rfl (by (try simp only [List.map_toArray, List.map_cons, List.map_nil]); first | done | rfl | (simp only [List.length_drop, List.length_take]; rfl)) ?_; (with_reducible refine (impl_TblOk.calls k _ _ l0_0 a0_1 a0_2 _ _ l0_3 a0_4 true _ ?side1 ?side2 ?side3 ?side4 A3.out).mono ?_); (case side1 => repeat (first | exact (Kd.C_below ad.out HB.out) | (with_reducible refine Kd.C_alloc ?_ _) | (with_reducible refine Kd.C_drewN ?_ _) | (with_reducible refine Kd.C_drew ?_))); (case side2 => exact ag.out); (case side3 => repeat (first | exact (Kd.C_below ae.out HB.out) | (with_reducible refine Kd.C_alloc ?_ _) | (with_reducible refine Kd.C_drewN ?_ _) | (with_reducible refine Kd.C_drew ?_))); (case side4 => exact af.out); rintro e w10 ⟨rfl, hb⟩; refine ⟨_, rfl, ?_⟩; have n0_ := qa11 (blk_below (g := ac) (by (with_reducible repeat (first | apply blk_drewN | apply blk_drew | apply blk_alloc)); exact aa.out) hb); have n1_ := qa11 (below_step (by repeat (first | (with_reducible first | exact HB.out | apply below_alloc | apply qc11 | apply below_drew1 | refine below_set ?_ ab.out) | exact HB.out)) hb); replace aa := n0_; replace HB := n1_; clear n0_ n1_; (try clear hb hk hi); have an := bq11_ aa.out 0 rfl; have aw := bq11_ aa.out 1 rfl; have aJ := bq11_ aa.out 2 rfl; have ay := bq11_ aa.out 3 rfl; have aT := bq11_ aa.out 4 rfl; have aH := qb11 aa.out 0; have ao := qb11 aa.out 1; have az := qb11 aa.out 2; have aQ := qb11 aa.out 3; have aG := qb11 aa.out 4) | (go_at_call 22; (with_reducible refine (impl_in.calls a1 0 (wrap64 ((l0_3.length : Int) - 1)) true _ A5.out).mono ?_); rintro e w' ⟨rfl, ⟨nd, rfl⟩⟩) | ((with_reducible refine gate_callee (f := 35) rfl ?_); refine goesL_ (some 19) rfl rfl Tryd.func35 (by kernel_rfl) rfl #[.agg #[.slice A0_0 l0_0.length c0_0, .int .i64 a0_1, .int .i64 a0_2, .slice A0_3 l0_3.length c0_3, .int .i64 a0_4], .int .i64 a1] rfl (by (try simp only [List.map_toArray, List.map_cons, List.map_nil]); first | done | rfl | (simp only [List.length_drop, List.length_take]; rfl)) ?_; (with_reducible refine (impl_TblTable_part.calls _ _ l0_0 a0_1 a0_2 _ _ l0_3 a0_4 a1 t448 _ ?side1 ?side2 ?side3 ?side4 A7.out).mono ?_); (case side1 => repeat (first | exact (Kd.C_below ad.out (by repeat (first | (with_reducible first | exact HB.out | apply below_alloc | apply qc11 | apply below_drew1 | refine below_set ?_ ab.out) | exact HB.out))) | (with_reducible refine Kd.C_alloc ?_ _) | (with_reducible refine Kd.C_drewN ?_ _) | (with_reducible refine Kd.C_drew ?_))); (case side2 => exact ag.out); (case side3 => repeat (first | exact (Kd.C_below ae.out (by repeat (first | (with_reducible first | exact HB.out | apply below_alloc | apply qc11 | apply below_drew1 | refine below_set ?_ ab.out) | exact HB.out))) | (with_reducible refine Kd.C_alloc ?_ _) | (with_reducible refine Kd.C_drewN ?_ _) | (with_reducible refine Kd.C_drew ?_))); (case side4 => exact af.out); rintro e w12 ⟨rfl, hb⟩; refine ⟨_, rfl, ?_⟩; have n0_ := qa11 (blk_below (g := ac) (by (with_reducible repeat (first | apply blk_drewN | apply blk_drew | apply blk_alloc)); exact aa.out) hb); have n1_ := qa11 (below_step (by repeat (first | (with_reducible first | exact HB.out | apply below_alloc | apply qc11 | apply below_drew1 | refine below_set ?_ ab.out) | exact HB.out)) hb); replace aa := n0_; replace HB := n1_; clear n0_ n1_; (try clear hb hk hi)))
   go_ret
   exact ⟨by first | rfl | (simp [errW_none, errW_some] <;> rfl) | (simp [*, errW_none, errW_some] <;> rfl), by repeat (first | (with_reducible first | exact HB.out | apply below_alloc | apply qc11 | apply below_drew1 | refine below_set ?_ ab.out) | exact HB.out)⟩
  ·replace c6 := Bool.eq_false_iff.mpr c6
   subst c6
   have H1 : (some (-1)) = some r := by rw [if_neg (show ¬ (false = true) by decide)] at H; exact H
   clear H
   have H := H1
   clear H1
   obtain rfl := Option.some.inj H
   go_enter Tryd.func11, Tryd.ntmps11
   go_wp2_with (first | ((with_reducible refine gate_dst (N := 2) rfl ?_); (try (refine gate_guard (by rfl) ?_; dsimp only)); refine box_event ?hg (N := 2) ?hd (cs := #[.slice A0_0 l0_0.length c0_0, .int .i64 a0_1, .int .i64 a0_2, .slice A0_3 l0_3.length c0_3, .int .i64 a0_4]) (t := 26) ?hr ?_; (case hd => rfl); (case hg => rfl); (case hr => go_simp <;> rfl); intro ac hg w13 hbox hb; have n0_ := qa11 (below_step (by repeat (first | (with_reducible first | exact HB.out | apply below_alloc | apply qc11 | apply below_drew1) | exact HB.out)) hb); have n1_ := qa11 (hbox); have n2_ := qa11 ((by rw [hg]; exact (below_size (by repeat (first | (with_reducible first | exact HB.out | apply below_alloc | apply qc11 | apply below_drew1) | exact HB.out))) : w.heap.size ≤ ac)); have n3_ := qa11 n2_.out; replace HB := n0_; have aa := n1_; have ah := n2_; have ab := n3_; clear n0_ n1_ n2_ n3_; clear hb hbox hg; have au := bq11_ aa.out 0 rfl; have aU := bq11_ aa.out 1 rfl; have aK := bq11_ aa.out 2 rfl; have aP := bq11_ aa.out 3 rfl; have aR := bq11_ aa.out 4 rfl; have ak := qb11 aa.out 0; have aW := qb11 aa.out 1; have aD := qb11 aa.out 2; have am := qb11 aa.out 3; have aA := qb11 aa.out 4) | ((with_reducible refine gate_callee (f := 8) rfl ?_); refine goesL_ (some 6) rfl rfl Tryd.func8 (by kernel_rfl) rfl #[.agg #[.slice A0_0 l0_0.length c0_0, .int .i64 a0_1, .int .i64 a0_2, .slice A0_3 l0_3.length c0_3, .int .i64 a0_4]] rfl (by (try simp only [List.map_toArray, List.map_cons, List.map_nil]); first | done | rfl | (simp only [List.length_drop, List.length_take]; rfl)) ?_; (with_reducible refine (impl_TblOk.calls k _ _ l0_0 a0_1 a0_2 _ _ l0_3 a0_4 true _ ?side1 ?side2 ?side3 ?side4 A3.out).mono ?_); (case side1 => repeat (first | exact (Kd.C_below ad.out HB.out) | (with_reducible refine Kd.C_alloc ?_ _) | (with_reducible refine Kd.C_drewN ?_ _) | (with_reducible refine Kd.C_drew ?_))); (case side2 => exact ag.out); (case side3 => repeat (first | exact (Kd.C_below ae.out HB.out) | (with_reducible refine Kd.C_alloc ?_ _) | (with_reducible refine Kd.C_drewN ?_ _) | (with_reducible refine Kd.C_drew ?_))); (case side4 => exact af.out); rintro e w15 ⟨rfl, hb⟩; refine ⟨_, rfl, ?_⟩; have n0_ := qa11 (blk_below (g := ac) (by (with_reducible repeat (first | apply blk_drewN | apply blk_drew | apply blk_alloc)); exact aa.out) hb); have n1_ := qa11 (below_step (by repeat (first | (with_reducible first | exact HB.out | apply below_alloc | apply qc11 | apply below_drew1 | refine below_set ?_ ab.out) | exact HB.out)) hb); replace aa := n0_; replace HB := n1_; clear n0_ n1_; (try clear hb hk hi); have aN := bq11_ aa.out 0 rfl; have aq := bq11_ aa.out 1 rfl; have aM := bq11_ aa.out 2 rfl; have ar := bq11_ aa.out 3 rfl; have ap := bq11_ aa.out 4 rfl; have aB := qb11 aa.out 0; have aO := qb11 aa.out 1; have al := qb11 aa.out 2; have aI := qb11 aa.out 3; have ai := qb11 aa.out 4) | (go_at_call 22; (with_reducible refine (impl_in.calls a1 0 (wrap64 ((l0_3.length : Int) - 1)) false _ A5.out).mono ?_); rintro e w' ⟨rfl, ⟨nd, rfl⟩⟩))
   go_ret
   exact ⟨by first | rfl | (simp [errW_none, errW_some] <;> rfl) | (simp [*, errW_none, errW_some] <;> rfl), by repeat (first | (with_reducible first | exact HB.out | apply below_alloc | apply qc11 | apply below_drew1 | refine below_set ?_ ab.out) | exact HB.out)⟩
 ·replace c4 := Bool.eq_false_iff.mpr c4
  subst c4
  have H1 : (some (-1)) = some r := by rw [if_neg (show ¬ (false = true) by decide)] at H; exact H
  clear H
  have H := H1
  clear H1
  obtain rfl := Option.some.inj H
  go_enter Tryd.func11, Tryd.ntmps11
  go_wp2_with (first | ((with_reducible refine gate_dst (N := 2) rfl ?_); (try (refine gate_guard (by rfl) ?_; dsimp only)); refine box_event ?hg (N := 2) ?hd (cs := #[.slice A0_0 l0_0.length c0_0, .int .i64 a0_1, .int .i64 a0_2, .slice A0_3 l0_3.length c0_3, .int .i64 a0_4]) (t := 26) ?hr ?_; (case hd => rfl); (case hg => rfl); (case hr => go_simp <;> rfl); intro ac hg w17 hbox hb; have n0_ := qa11 (below_step (by repeat (first | (with_reducible first | exact HB.out | apply below_alloc | apply qc11 | apply below_drew1) | exact HB.out)) hb); have n1_ := qa11 (hbox); have n2_ := qa11 ((by rw [hg]; exact (below_size (by repeat (first | (with_reducible first | exact HB.out | apply below_alloc | apply qc11 | apply below_drew1) | exact HB.out))) : w.heap.size ≤ ac)); have n3_ := qa11 n2_.out; replace HB := n0_; have aa := n1_; have ah := n2_; have ab := n3_; clear n0_ n1_ n2_ n3_; clear hb hbox hg; have aF := bq11_ aa.out 0 rfl; have aE := bq11_ aa.out 1 rfl; have aC := bq11_ aa.out 2 rfl; have aX := bq11_ aa.out 3 rfl; have aL := bq11_ aa.out 4 rfl; have aV := qb11 aa.out 0; have av := qb11 aa.out 1; have aS := qb11 aa.out 2; have aj := qb11 aa.out 3; have ax := qb11 aa.out 4) | ((with_reducible refine gate_callee (f := 8) rfl ?_); refine goesL_ (some 6) rfl rfl Tryd.func8 (by kernel_rfl) rfl #[.agg #[.slice A0_0 l0_0.length c0_0, .int .i64 a0_1, .int .i64 a0_2, .slice A0_3 l0_3.length c0_3, .int .i64 a0_4]] rfl (by (try simp only [List.map_toArray, List.map_cons, List.map_nil]); first | done | rfl | (simp only [List.length_drop, List.length_take]; rfl)) ?_; (with_reducible refine (impl_TblOk.calls k _ _ l0_0 a0_1 a0_2 _ _ l0_3 a0_4 false _ ?side1 ?side2 ?side3 ?side4 A3.out).mono ?_); (case side1 => repeat (first | exact (Kd.C_below ad.out HB.out) | (with_reducible refine Kd.C_alloc ?_ _) | (with_reducible refine Kd.C_drewN ?_ _) | (with_reducible refine Kd.C_drew ?_))); (case side2 => exact ag.out); (case side3 => repeat (first | exact (Kd.C_below ae.out HB.out) | (with_reducible refine Kd.C_alloc ?_ _) | (with_reducible refine Kd.C_drewN ?_ _) | (with_reducible refine Kd.C_drew ?_))); (case side4 => exact af.out); rintro e w19 ⟨rfl, hb⟩; refine ⟨_, rfl, ?_⟩; have n0_ := qa11 (blk_below (g := ac) (by (with_reducible repeat (first | apply blk_drewN | apply blk_drew | apply blk_alloc)); exact aa.out) hb); have n1_ := qa11 (below_step (by repeat (first | (with_reducible first | exact HB.out | apply below_alloc | apply qc11 | apply below_drew1 | refine below_set ?_ ab.out) | exact HB.out)) hb); replace aa := n0_; replace HB := n1_; clear n0_ n1_; (try clear hb hk hi)))
  go_ret
  exact ⟨by first | rfl | (simp [errW_none, errW_some] <;> rfl) | (simp [*, errW_none, errW_some] <;> rfl), by repeat (first | (with_reducible first | exact HB.out | apply below_alloc | apply qc11 | apply below_drew1 | refine below_set ?_ ab.out) | exact HB.out)⟩
end Go.Proofs.YtnednnnegofhkaaDoor.Pr
namespace Go.Proofs.YtnednnnegofhkaaDoor.Pr
open Go.RowKit Go.Proofs.YtnednnnegofhkaaDoorW.PrintWords Go.Proofs.YtnednnnegofhkaaDoorW.PrintLast Go.Proofs.YtnednnnegofhkaaDoorW.PrintMore
attribute [local go_sem] max2_int min2_int max_two min_two max_three min_three max_four min_four
set_option linter.unusedVariables false
set_option linter.unusedSimpArgs false
def spec_l2Part.f (l0_0 : List (S29)) (a0_1 : Int) (a0_2 : Int) (l0_3 : List (S32)) (a0_4 : Int) (a1 : Int) : Option (Int) := if a1 < a0_1 then (some 0) else (if a1 ≥ (wrap64 ((l0_3.length : Int) - a0_2)) then (some 2) else (some 1))
theorem bq36_ {w : World} {g : Nat} {t : TypeId} {cs : Array Value} {v : Value} (h : w.heap[g]? = some (.cells cs t (0, 0))) (i : Nat) (e : cs[i]? = some v) : w.cell? ⟨g, i, none⟩ = some v := (blk_cell h i).trans e
set_option maxHeartbeats 8000000 in
set_option maxRecDepth 100000 in
theorem spec_l2Part.calls (A0_0 : Option Addr) (c0_0 : Nat) (l0_0 : List (S29)) (a0_1 : Int) (a0_2 : Int) (A0_3 : Option Addr) (c0_3 : Nat) (l0_3 : List (S32)) (a0_4 : Int) (a1 : Int) (r : Int) (w : World) (hr0_0 : Kd.C k29 w A0_0 l0_0.length l0_0) (hc0_0 : l0_0.length ≤ c0_0) (hr0_3 : Kd.C k32 w A0_3 l0_3.length l0_3) (hc0_3 : l0_3.length ≤ c0_3) (h : spec_l2Part.f l0_0 a0_1 a0_2 l0_3 a0_4 a1 = some r) :
  Calls Tryd.prog 36 #[.agg #[.slice A0_0 l0_0.length c0_0, .int .i64 a0_1, .int .i64 a0_2, .slice A0_3 l0_3.length c0_3, .int .i64 a0_4], .int .i64 a1] w fun e w' => e = .returned (.int .i64 r) ∧ Below w.heap.size w w' := by
 have hu26 := Tryd.underlying26
 have HR0_0 := Aside0.mk hr0_0
 have HC0_0 := Aside0.mk hc0_0
 clear hr0_0 hc0_0
 have HR0_3 := Aside0.mk hr0_3
 have HC0_3 := Aside0.mk hc0_3
 clear hr0_3 hc0_3
 have HB := Aside0.mk (Below.refl w.heap.size w)
 have H := h
 unfold spec_l2Part.f at H
 clear h
 by_cases c3 : a1 < a0_1
 ·rw [if_pos c3] at H
  have ae : decide (a1 < a0_1) = true := decide_eq_true c3
  clear c3
  obtain rfl := Option.some.inj H
  go_enter Tryd.func36, Tryd.ntmps36
  go_wp2_with (first | ((with_reducible refine gate_dst (N := 2) rfl ?_); refine box_event ?hg (N := 2) ?hd (cs := #[.slice A0_0 l0_0.length c0_0, .int .i64 a0_1, .int .i64 a0_2, .slice A0_3 l0_3.length c0_3, .int .i64 a0_4]) (t := 26) ?hr ?_; (case hd => rfl); (case hg => rfl); (case hr => go_simp <;> rfl); intro ab hg w4 hbox hb; have n0_ := Aside0.mk (below_step (by repeat (first | (with_reducible first | exact HB.out | apply below_alloc | apply pw_below_drewN | apply below_drew1) | exact HB.out)) hb); have n1_ := Aside0.mk (hbox); have n2_ := Aside0.mk ((by rw [hg]; exact (below_size (by repeat (first | (with_reducible first | exact HB.out | apply below_alloc | apply pw_below_drewN | apply below_drew1) | exact HB.out))) : w.heap.size ≤ ab)); have n3_ := Aside0.mk n2_.out; replace HB := n0_; have aa := n1_; have ad := n2_; have ac := n3_; clear n0_ n1_ n2_ n3_; clear hb hbox hg; have ax := bq36_ aa.out 0 rfl; have aI := bq36_ aa.out 1 rfl; have aC := bq36_ aa.out 2 rfl; have aH := bq36_ aa.out 3 rfl; have aG := bq36_ aa.out 4 rfl; have au := blk_frozen aa.out 0; have ay := blk_frozen aa.out 1; have av := blk_frozen aa.out 2; have aD := blk_frozen aa.out 3; have aq := blk_frozen aa.out 4))
  go_ret
  exact ⟨by first | rfl | (simp [errW_none, errW_some] <;> rfl) | (simp [*, errW_none, errW_some] <;> rfl), by repeat (first | (with_reducible first | exact HB.out | apply below_alloc | apply pw_below_drewN | apply below_drew1 | refine below_set ?_ ac.out) | exact HB.out)⟩
 ·rw [if_neg c3] at H
  have ae : decide (a1 < a0_1) = false := decide_eq_false c3
  clear c3
  by_cases c6 : a1 ≥ (wrap64 ((l0_3.length : Int) - a0_2))
  ·rw [if_pos c6] at H
   have af : decide ((wrap64 ((l0_3.length : Int) - a0_2)) ≤ a1) = true := decide_eq_true c6
   clear c6
   obtain rfl := Option.some.inj H
   go_enter Tryd.func36, Tryd.ntmps36
   go_wp2_with (first | ((with_reducible refine gate_dst (N := 2) rfl ?_); refine box_event ?hg (N := 2) ?hd (cs := #[.slice A0_0 l0_0.length c0_0, .int .i64 a0_1, .int .i64 a0_2, .slice A0_3 l0_3.length c0_3, .int .i64 a0_4]) (t := 26) ?hr ?_; (case hd => rfl); (case hg => rfl); (case hr => go_simp <;> rfl); intro ab hg w7 hbox hb; have n0_ := Aside0.mk (below_step (by repeat (first | (with_reducible first | exact HB.out | apply below_alloc | apply pw_below_drewN | apply below_drew1) | exact HB.out)) hb); have n1_ := Aside0.mk (hbox); have n2_ := Aside0.mk ((by rw [hg]; exact (below_size (by repeat (first | (with_reducible first | exact HB.out | apply below_alloc | apply pw_below_drewN | apply below_drew1) | exact HB.out))) : w.heap.size ≤ ab)); have n3_ := Aside0.mk n2_.out; replace HB := n0_; have aa := n1_; have ad := n2_; have ac := n3_; clear n0_ n1_ n2_ n3_; clear hb hbox hg; have aJ := bq36_ aa.out 0 rfl; have aK := bq36_ aa.out 1 rfl; have aw := bq36_ aa.out 2 rfl; have aL := bq36_ aa.out 3 rfl; have aE := bq36_ aa.out 4 rfl; have aB := blk_frozen aa.out 0; have aA := blk_frozen aa.out 1; have ar := blk_frozen aa.out 2; have aF := blk_frozen aa.out 3; have az := blk_frozen aa.out 4))
   go_ret
   exact ⟨by first | rfl | (simp [errW_none, errW_some] <;> rfl) | (simp [*, errW_none, errW_some] <;> rfl), by repeat (first | (with_reducible first | exact HB.out | apply below_alloc | apply pw_below_drewN | apply below_drew1 | refine below_set ?_ ac.out) | exact HB.out)⟩
  ·rw [if_neg c6] at H
   have af : decide ((wrap64 ((l0_3.length : Int) - a0_2)) ≤ a1) = false := decide_eq_false c6
   clear c6
   obtain rfl := Option.some.inj H
   go_enter Tryd.func36, Tryd.ntmps36
   go_wp2_with (first | ((with_reducible refine gate_dst (N := 2) rfl ?_); refine box_event ?hg (N := 2) ?hd (cs := #[.slice A0_0 l0_0.length c0_0, .int .i64 a0_1, .int .i64 a0_2, .slice A0_3 l0_3.length c0_3, .int .i64 a0_4]) (t := 26) ?hr ?_; (case hd => rfl); (case hg => rfl); (case hr => go_simp <;> rfl); intro ab hg w9 hbox hb; have n0_ := Aside0.mk (below_step (by repeat (first | (with_reducible first | exact HB.out | apply below_alloc | apply pw_below_drewN | apply below_drew1) | exact HB.out)) hb); have n1_ := Aside0.mk (hbox); have n2_ := Aside0.mk ((by rw [hg]; exact (below_size (by repeat (first | (with_reducible first | exact HB.out | apply below_alloc | apply pw_below_drewN | apply below_drew1) | exact HB.out))) : w.heap.size ≤ ab)); have n3_ := Aside0.mk n2_.out; replace HB := n0_; have aa := n1_; have ad := n2_; have ac := n3_; clear n0_ n1_ n2_ n3_; clear hb hbox hg; have an := bq36_ aa.out 0 rfl; have am := bq36_ aa.out 1 rfl; have ao := bq36_ aa.out 2 rfl; have ag := bq36_ aa.out 3 rfl; have ak := bq36_ aa.out 4 rfl; have ai := blk_frozen aa.out 0; have al := blk_frozen aa.out 1; have ap := blk_frozen aa.out 2; have ah := blk_frozen aa.out 3; have aj := blk_frozen aa.out 4))
   go_ret
   exact ⟨by first | rfl | (simp [errW_none, errW_some] <;> rfl) | (simp [*, errW_none, errW_some] <;> rfl), by repeat (first | (with_reducible first | exact HB.out | apply below_alloc | apply pw_below_drewN | apply below_drew1 | refine below_set ?_ ac.out) | exact HB.out)⟩
end Go.Proofs.YtnednnnegofhkaaDoor.Pr
namespace Go.Proofs.YtnednnnegofhkaaDoor.Pr
open Go.RowKit Go.Proofs.YtnednnnegofhkaaDoorW.PrintWords Go.Proofs.YtnednnnegofhkaaDoorW.PrintLast Go.Proofs.YtnednnnegofhkaaDoorW.PrintMore
attribute [local go_sem] max2_int min2_int max_two min_two max_three min_three max_four min_four
set_option linter.unusedVariables false
set_option linter.unusedSimpArgs false
def spec_TblPart.f (k : Nat) (l0_0 : List (S29)) (a0_1 : Int) (a0_2 : Int) (l0_3 : List (S32)) (a0_4 : Int) (a1 : Int) : Option (Int) := (spec_TblOk.f k l0_0 a0_1 a0_2 l0_3 a0_4).bind fun t451 => (if t451 = true then ((spec_l1In.f a1 0 (wrap64 ((l0_3.length : Int) - 1))).bind fun t452 => (if t452 = true then ((spec_l2Part.f l0_0 a0_1 a0_2 l0_3 a0_4 a1).bind fun t453 => (some t453)) else (some (-1)))) else (some (-1)))
theorem spec_TblPart.mono : ∀ a0 a1 a2 a3 a4 a5 k, LeO (spec_TblPart.f k a0 a1 a2 a3 a4 a5) (spec_TblPart.f (k + 1) a0 a1 a2 a3 a4 a5) := by
  intro a0 a1 a2 a3 a4 a5 k
  unfold spec_TblPart.f
  repeat' first
      | (with_reducible exact spec_TblOk.mono _ _ _ _ _ _)
      | (with_reducible exact LeO.refl _)
      | (with_reducible exact LeO.none _)
      | (with_reducible refine LeO.ite ?_ ?_)
      | (with_reducible refine LeO.bind ?_ (fun _ => ?_))
      | exact spec_TblOk.mono _ _ _ _ _ _
      | exact LeO.none _
      | refine LeO.ite ?_ ?_
      | refine LeO.bind ?_ (fun _ => ?_)
theorem bq12_ {w : World} {g : Nat} {t : TypeId} {cs : Array Value} {v : Value} (h : w.heap[g]? = some (.cells cs t (0, 0))) (i : Nat) (e : cs[i]? = some v) : w.cell? ⟨g, i, none⟩ = some v := (blk_cell h i).trans e
abbrev qa12 := @Aside0.mk
abbrev qb12 := @blk_frozen
abbrev qc12 := @pw_below_drewN
set_option maxHeartbeats 8000000 in
set_option maxRecDepth 100000 in
theorem spec_TblPart.calls (k : Nat) (A0_0 : Option Addr) (c0_0 : Nat) (l0_0 : List (S29)) (a0_1 : Int) (a0_2 : Int) (A0_3 : Option Addr) (c0_3 : Nat) (l0_3 : List (S32)) (a0_4 : Int) (a1 : Int) (r : Int) (w : World) (hr0_0 : Kd.C k29 w A0_0 l0_0.length l0_0) (hc0_0 : l0_0.length ≤ c0_0) (hr0_3 : Kd.C k32 w A0_3 l0_3.length l0_3) (hc0_3 : l0_3.length ≤ c0_3) (h : spec_TblPart.f k l0_0 a0_1 a0_2 l0_3 a0_4 a1 = some r) :
  Calls Tryd.prog 12 #[.agg #[.slice A0_0 l0_0.length c0_0, .int .i64 a0_1, .int .i64 a0_2, .slice A0_3 l0_3.length c0_3, .int .i64 a0_4], .int .i64 a1] w fun e w' => e = .returned (.int .i64 r) ∧ Below w.heap.size w w' := by
 have hu26 := Tryd.underlying26
 have ad := qa12 hr0_0
 have ag := qa12 hc0_0
 clear hr0_0 hc0_0
 have ae := qa12 hr0_3
 have af := qa12 hc0_3
 clear hr0_3 hc0_3
 have HB := qa12 (Below.refl w.heap.size w)
 have H := h
 unfold spec_TblPart.f at H
 clear h
 replace H := Option.bind_eq_some_iff.mp H
 obtain ⟨t451, A30, H⟩ := H
 (try dsimp only at H)
 have A3 := qa12 A30
 clear A30
 by_cases c4 : t451 = true
 ·subst c4
  have H1 : ((spec_l1In.f a1 0 (wrap64 ((l0_3.length : Int) - 1))).bind fun t452 => (if t452 = true then ((spec_l2Part.f l0_0 a0_1 a0_2 l0_3 a0_4 a1).bind fun t453 => (some t453)) else (some (-1)))) = some r := by rw [if_pos rfl] at H; exact H
  clear H
  have H := H1
  clear H1
  replace H := Option.bind_eq_some_iff.mp H
  obtain ⟨t452, A50, H⟩ := H
  (try dsimp only at H)
  have A5 := qa12 A50
  clear A50
  by_cases c6 : t452 = true
  ·subst c6
   have H1 : ((spec_l2Part.f l0_0 a0_1 a0_2 l0_3 a0_4 a1).bind fun t453 => (some t453)) = some r := by rw [if_pos rfl] at H; exact H
   clear H
   have H := H1
   clear H1
   replace H := Option.bind_eq_some_iff.mp H
   obtain ⟨t453, A70, H⟩ := H
   (try dsimp only at H)
   have A7 := qa12 A70
   clear A70
   obtain rfl := Option.some.inj H
   go_enter Tryd.func12, Tryd.ntmps12
   go_wp2_with (first | ((with_reducible refine gate_dst (N := 2) rfl ?_); (try (refine gate_guard (by rfl) ?_; dsimp only)); refine box_event ?hg (N := 2) ?hd (cs := #[.slice A0_0 l0_0.length c0_0, .int .i64 a0_1, .int .i64 a0_2, .slice A0_3 l0_3.length c0_3, .int .i64 a0_4]) (t := 26) ?hr ?_; (case hd => rfl); (case hg => rfl); (case hr => go_simp <;> rfl); intro ac hg w8 hbox hb; have n0_ := qa12 (below_step (by repeat (first | (with_reducible first | exact HB.out | apply below_alloc | apply qc12 | apply below_drew1) | exact HB.out)) hb); have n1_ := qa12 (hbox); have n2_ := qa12 ((by rw [hg]; exact (below_size (by repeat (first | (with_reducible first | exact HB.out | apply below_alloc | apply qc12 | apply below_drew1) | exact HB.out))) : w.heap.size ≤ ac)); have n3_ := qa12 n2_.out; replace HB := n0_; have aa := n1_; have ah := n2_; have ab := n3_; clear n0_ n1_ n2_ n3_; clear hb hbox hg; have a8 := bq12_ aa.out 0 rfl; have bd := bq12_ aa.out 1 rfl; have ba := bq12_ aa.out 2 rfl; have aZ := bq12_ aa.out 3 rfl; have a9 := bq12_ aa.out 4 rfl; have bc := qb12 aa.out 0; have aY := qb12 aa.out 1; have a7 := qb12 aa.out 2; have bb := qb12 aa.out 3; have a6 := qb12 aa.out 4) | ((with_reducible refine gate_callee (f := 9) rfl ?_); refine goesL_ (some 6) rfl rfl Tryd.func9 (by kernel_rfl) rfl #[.agg #[.slice A0_0 l0_0.length c0_0, .int .i64 a0_1, .int .i64 a0_2, .slice A0_3 l0_3.length c0_3, .int .i64 a0_4]] rfl (by (try simp only [List.map_toArray, List.map_cons, List.map_nil]); first | done | rfl | (simp only [List.length_drop, List.length_take]; rfl)) ?_; (with_reducible refine (spec_TblOk.calls k _ _ l0_0 a0_1 a0_2 _ _ l0_3 a0_4 true _ ?side1 ?side2 ?side3 ?side4 A3.out).mono ?_); (case side1 => repeat (first | exact (Kd.C_below ad.out HB.out) | (with_reducible refine Kd.C_alloc ?_ _) | (with_reducible refine Kd.C_drewN ?_ _) | (with_reducible refine Kd.C_drew ?_))); (case side2 => exact ag.out); (case side3 => repeat (first | exact (Kd.C_below ae.out HB.out) | (with_reducible refine Kd.C_alloc ?_ _) | (with_reducible refine Kd.C_drewN ?_ _) | (with_reducible refine Kd.C_drew ?_))); (case side4 => exact af.out); rintro e w10 ⟨rfl, hb⟩; refine ⟨_, rfl, ?_⟩; have n0_ := qa12 (blk_below (g := ac) (by (with_reducible repeat (first | apply blk_drewN | apply blk_drew | apply blk_alloc)); exact aa.out) hb); have n1_ := qa12 (below_step (by repeat (first | (with_reducible first | exact HB.out | apply below_alloc | apply qc12 | apply below_drew1 | refine below_set ?_ ab.out) | exact HB.out)) hb); replace aa := n0_; replace HB := n1_; clear n0_ n1_; (try clear hb hk hi); have an := bq12_ aa.out 0 rfl; have aw := bq12_ aa.out 1 rfl; have aJ := bq12_ aa.out 2 rfl; have ay := bq12_ aa.out 3 rfl; have aT := bq12_ aa.out 4 rfl; have aH := qb12 aa.out 0; have ao := qb12 aa.out 1; have az := qb12 aa.out 2; have aQ := qb12 aa.out 3; have aG := qb12 aa.out 4) | (go_at_call 31; (with_reducible refine (spec_l1In.calls a1 0 (wrap64 ((l0_3.length : Int) - 1)) true _ A5.out).mono ?_); rintro e w' ⟨rfl, ⟨nd, rfl⟩⟩) | ((with_reducible refine gate_callee (f := 36) rfl ?_); refine goesL_ (some 19) rfl rfl Tryd.func36 (by kernel_rfl) rfl #[.agg #[.slice A0_0 l0_0.length c0_0, .int .i64 a0_1, .int .i64 a0_2, .slice A0_3 l0_3.length c0_3, .int .i64 a0_4], .int .i64 a1] rfl (by (try simp only [List.map_toArray, List.map_cons, List.map_nil]); first | done | rfl | (simp only [List.length_drop, List.length_take]; rfl)) ?_; (with_reducible refine (spec_l2Part.calls _ _ l0_0 a0_1 a0_2 _ _ l0_3 a0_4 a1 t453 _ ?side1 ?side2 ?side3 ?side4 A7.out).mono ?_); (case side1 => repeat (first | exact (Kd.C_below ad.out (by repeat (first | (with_reducible first | exact HB.out | apply below_alloc | apply qc12 | apply below_drew1 | refine below_set ?_ ab.out) | exact HB.out))) | (with_reducible refine Kd.C_alloc ?_ _) | (with_reducible refine Kd.C_drewN ?_ _) | (with_reducible refine Kd.C_drew ?_))); (case side2 => exact ag.out); (case side3 => repeat (first | exact (Kd.C_below ae.out (by repeat (first | (with_reducible first | exact HB.out | apply below_alloc | apply qc12 | apply below_drew1 | refine below_set ?_ ab.out) | exact HB.out))) | (with_reducible refine Kd.C_alloc ?_ _) | (with_reducible refine Kd.C_drewN ?_ _) | (with_reducible refine Kd.C_drew ?_))); (case side4 => exact af.out); rintro e w12 ⟨rfl, hb⟩; refine ⟨_, rfl, ?_⟩; have n0_ := qa12 (blk_below (g := ac) (by (with_reducible repeat (first | apply blk_drewN | apply blk_drew | apply blk_alloc)); exact aa.out) hb); have n1_ := qa12 (below_step (by repeat (first | (with_reducible first | exact HB.out | apply below_alloc | apply qc12 | apply below_drew1 | refine below_set ?_ ab.out) | exact HB.out)) hb); replace aa := n0_; replace HB := n1_; clear n0_ n1_; (try clear hb hk hi)))
   go_ret
   exact ⟨by first | rfl | (simp [errW_none, errW_some] <;> rfl) | (simp [*, errW_none, errW_some] <;> rfl), by repeat (first | (with_reducible first | exact HB.out | apply below_alloc | apply qc12 | apply below_drew1 | refine below_set ?_ ab.out) | exact HB.out)⟩
  ·replace c6 := Bool.eq_false_iff.mpr c6
   subst c6
   have H1 : (some (-1)) = some r := by rw [if_neg (show ¬ (false = true) by decide)] at H; exact H
   clear H
   have H := H1
   clear H1
   obtain rfl := Option.some.inj H
   go_enter Tryd.func12, Tryd.ntmps12
   go_wp2_with (first | ((with_reducible refine gate_dst (N := 2) rfl ?_); (try (refine gate_guard (by rfl) ?_; dsimp only)); refine box_event ?hg (N := 2) ?hd (cs := #[.slice A0_0 l0_0.length c0_0, .int .i64 a0_1, .int .i64 a0_2, .slice A0_3 l0_3.length c0_3, .int .i64 a0_4]) (t := 26) ?hr ?_; (case hd => rfl); (case hg => rfl); (case hr => go_simp <;> rfl); intro ac hg w13 hbox hb; have n0_ := qa12 (below_step (by repeat (first | (with_reducible first | exact HB.out | apply below_alloc | apply qc12 | apply below_drew1) | exact HB.out)) hb); have n1_ := qa12 (hbox); have n2_ := qa12 ((by rw [hg]; exact (below_size (by repeat (first | (with_reducible first | exact HB.out | apply below_alloc | apply qc12 | apply below_drew1) | exact HB.out))) : w.heap.size ≤ ac)); have n3_ := qa12 n2_.out; replace HB := n0_; have aa := n1_; have ah := n2_; have ab := n3_; clear n0_ n1_ n2_ n3_; clear hb hbox hg; have au := bq12_ aa.out 0 rfl; have aU := bq12_ aa.out 1 rfl; have aK := bq12_ aa.out 2 rfl; have aP := bq12_ aa.out 3 rfl; have aR := bq12_ aa.out 4 rfl; have ak := qb12 aa.out 0; have aW := qb12 aa.out 1; have aD := qb12 aa.out 2; have am := qb12 aa.out 3; have aA := qb12 aa.out 4) | ((with_reducible refine gate_callee (f := 9) rfl ?_); refine goesL_ (some 6) rfl rfl Tryd.func9 (by kernel_rfl) rfl #[.agg #[.slice A0_0 l0_0.length c0_0, .int .i64 a0_1, .int .i64 a0_2, .slice A0_3 l0_3.length c0_3, .int .i64 a0_4]] rfl (by (try simp only [List.map_toArray, List.map_cons, List.map_nil]); first | done | rfl | (simp only [List.length_drop, List.length_take]; rfl)) ?_; (with_reducible refine (spec_TblOk.calls k _ _ l0_0 a0_1 a0_2 _ _ l0_3 a0_4 true _ ?side1 ?side2 ?side3 ?side4 A3.out).mono ?_); (case side1 => repeat (first | exact (Kd.C_below ad.out HB.out) | (with_reducible refine Kd.C_alloc ?_ _) | (with_reducible refine Kd.C_drewN ?_ _) | (with_reducible refine Kd.C_drew ?_))); (case side2 => exact ag.out); (case side3 => repeat (first | exact (Kd.C_below ae.out HB.out) | (with_reducible refine Kd.C_alloc ?_ _) | (with_reducible refine Kd.C_drewN ?_ _) | (with_reducible refine Kd.C_drew ?_))); (case side4 => exact af.out); rintro e w15 ⟨rfl, hb⟩; refine ⟨_, rfl, ?_⟩; have n0_ := qa12 (blk_below (g := ac) (by (with_reducible repeat (first | apply blk_drewN | apply blk_drew | apply blk_alloc)); exact aa.out) hb); have n1_ := qa12 (below_step (by repeat (first | (with_reducible first | exact HB.out | apply below_alloc | apply qc12 | apply below_drew1 | refine below_set ?_ ab.out) | exact HB.out)) hb); replace aa := n0_; replace HB := n1_; clear n0_ n1_; (try clear hb hk hi); have aN := bq12_ aa.out 0 rfl; have aq := bq12_ aa.out 1 rfl; have aM := bq12_ aa.out 2 rfl; have ar := bq12_ aa.out 3 rfl; have ap := bq12_ aa.out 4 rfl; have aB := qb12 aa.out 0; have aO := qb12 aa.out 1; have al := qb12 aa.out 2; have aI := qb12 aa.out 3; have ai := qb12 aa.out 4) | (go_at_call 31; (with_reducible refine (spec_l1In.calls a1 0 (wrap64 ((l0_3.length : Int) - 1)) false _ A5.out).mono ?_); rintro e w' ⟨rfl, ⟨nd, rfl⟩⟩))
   go_ret
   exact ⟨by first | rfl | (simp [errW_none, errW_some] <;> rfl) | (simp [*, errW_none, errW_some] <;> rfl), by repeat (first | (with_reducible first | exact HB.out | apply below_alloc | apply qc12 | apply below_drew1 | refine below_set ?_ ab.out) | exact HB.out)⟩
 ·replace c4 := Bool.eq_false_iff.mpr c4
  subst c4
  have H1 : (some (-1)) = some r := by rw [if_neg (show ¬ (false = true) by decide)] at H; exact H
  clear H
  have H := H1
  clear H1
  obtain rfl := Option.some.inj H
  go_enter Tryd.func12, Tryd.ntmps12
  go_wp2_with (first | ((with_reducible refine gate_dst (N := 2) rfl ?_); (try (refine gate_guard (by rfl) ?_; dsimp only)); refine box_event ?hg (N := 2) ?hd (cs := #[.slice A0_0 l0_0.length c0_0, .int .i64 a0_1, .int .i64 a0_2, .slice A0_3 l0_3.length c0_3, .int .i64 a0_4]) (t := 26) ?hr ?_; (case hd => rfl); (case hg => rfl); (case hr => go_simp <;> rfl); intro ac hg w17 hbox hb; have n0_ := qa12 (below_step (by repeat (first | (with_reducible first | exact HB.out | apply below_alloc | apply qc12 | apply below_drew1) | exact HB.out)) hb); have n1_ := qa12 (hbox); have n2_ := qa12 ((by rw [hg]; exact (below_size (by repeat (first | (with_reducible first | exact HB.out | apply below_alloc | apply qc12 | apply below_drew1) | exact HB.out))) : w.heap.size ≤ ac)); have n3_ := qa12 n2_.out; replace HB := n0_; have aa := n1_; have ah := n2_; have ab := n3_; clear n0_ n1_ n2_ n3_; clear hb hbox hg; have aF := bq12_ aa.out 0 rfl; have aE := bq12_ aa.out 1 rfl; have aC := bq12_ aa.out 2 rfl; have aX := bq12_ aa.out 3 rfl; have aL := bq12_ aa.out 4 rfl; have aV := qb12 aa.out 0; have av := qb12 aa.out 1; have aS := qb12 aa.out 2; have aj := qb12 aa.out 3; have ax := qb12 aa.out 4) | ((with_reducible refine gate_callee (f := 9) rfl ?_); refine goesL_ (some 6) rfl rfl Tryd.func9 (by kernel_rfl) rfl #[.agg #[.slice A0_0 l0_0.length c0_0, .int .i64 a0_1, .int .i64 a0_2, .slice A0_3 l0_3.length c0_3, .int .i64 a0_4]] rfl (by (try simp only [List.map_toArray, List.map_cons, List.map_nil]); first | done | rfl | (simp only [List.length_drop, List.length_take]; rfl)) ?_; (with_reducible refine (spec_TblOk.calls k _ _ l0_0 a0_1 a0_2 _ _ l0_3 a0_4 false _ ?side1 ?side2 ?side3 ?side4 A3.out).mono ?_); (case side1 => repeat (first | exact (Kd.C_below ad.out HB.out) | (with_reducible refine Kd.C_alloc ?_ _) | (with_reducible refine Kd.C_drewN ?_ _) | (with_reducible refine Kd.C_drew ?_))); (case side2 => exact ag.out); (case side3 => repeat (first | exact (Kd.C_below ae.out HB.out) | (with_reducible refine Kd.C_alloc ?_ _) | (with_reducible refine Kd.C_drewN ?_ _) | (with_reducible refine Kd.C_drew ?_))); (case side4 => exact af.out); rintro e w19 ⟨rfl, hb⟩; refine ⟨_, rfl, ?_⟩; have n0_ := qa12 (blk_below (g := ac) (by (with_reducible repeat (first | apply blk_drewN | apply blk_drew | apply blk_alloc)); exact aa.out) hb); have n1_ := qa12 (below_step (by repeat (first | (with_reducible first | exact HB.out | apply below_alloc | apply qc12 | apply below_drew1 | refine below_set ?_ ab.out) | exact HB.out)) hb); replace aa := n0_; replace HB := n1_; clear n0_ n1_; (try clear hb hk hi)))
  go_ret
  exact ⟨by first | rfl | (simp [errW_none, errW_some] <;> rfl) | (simp [*, errW_none, errW_some] <;> rfl), by repeat (first | (with_reducible first | exact HB.out | apply below_alloc | apply qc12 | apply below_drew1 | refine below_set ?_ ab.out) | exact HB.out)⟩
end Go.Proofs.YtnednnnegofhkaaDoor.Pr
namespace Go.Proofs.YtnednnnegofhkaaDoor.Pr
open Go.RowKit Go.Proofs.YtnednnnegofhkaaDoorW.PrintWords Go.Proofs.YtnednnnegofhkaaDoorW.PrintLast Go.Proofs.YtnednnnegofhkaaDoorW.PrintMore
attribute [local go_sem] max2_int min2_int max_two min_two max_three min_three max_four min_four
set_option linter.unusedVariables false
set_option linter.unusedSimpArgs false
def laws_pwOk.f (k : Nat)  : Option (Bool) := (impl_TxtOk.f k (⟨#[97, 98, 32, 99]⟩ : ByteArray)).bind fun t454 => (some t454)
theorem laws_pwOk.mono : ∀ k, LeO (laws_pwOk.f k ) (laws_pwOk.f (k + 1) ) := by
  intro  k
  unfold laws_pwOk.f
  repeat' first
      | (with_reducible exact impl_TxtOk.mono _ _)
      | (with_reducible exact LeO.refl _)
      | (with_reducible exact LeO.none _)
      | (with_reducible refine LeO.ite ?_ ?_)
      | (with_reducible refine LeO.bind ?_ (fun _ => ?_))
      | exact impl_TxtOk.mono _ _
      | exact LeO.none _
      | refine LeO.ite ?_ ?_
      | refine LeO.bind ?_ (fun _ => ?_)
set_option maxHeartbeats 8000000 in
set_option maxRecDepth 100000 in
theorem laws_pwOk.calls (k : Nat)  (r : Bool) (w : World) (h : laws_pwOk.f k  = some r) :
    Calls Tryd.prog 13 #[] w fun e w' => e = .returned (.bool r) ∧ Below w.heap.size w w' := by
  have HB := Aside0.mk (Below.refl w.heap.size w)
  have H : ((impl_TxtOk.f k (⟨#[97, 98, 32, 99]⟩ : ByteArray)).bind fun t454 => (some t454)) = some r := h
  clear h
  replace H := Option.bind_eq_some_iff.mp H
  obtain ⟨t454, A10, H⟩ := H
  replace H : (some t454) = some r := H
  have A1 := Aside0.mk A10
  clear A10
  obtain rfl := Option.some.inj H
  go_enter Tryd.func13, Tryd.ntmps13
  go_wp2_with (first | ((with_reducible refine gate_callee (f := 21) rfl ?_); refine goesL_ (some 1) rfl rfl Tryd.func21 (by kernel_rfl) rfl #[.string (⟨#[97, 98, 32, 99]⟩ : ByteArray)] rfl (by (try simp only [List.map_toArray, List.map_cons, List.map_nil]); first | done | rfl | (simp only [List.length_drop, List.length_take]; rfl)) ?_; (with_reducible refine (impl_TxtOk.calls k (⟨#[97, 98, 32, 99]⟩ : ByteArray) t454 _ A1.out).mono ?_); rintro e w2 ⟨rfl, hb⟩; refine ⟨_, rfl, ?_⟩; have n0_ := Aside0.mk (below_step (by repeat (first | (with_reducible first | exact HB.out | apply below_alloc | apply pw_below_drewN | apply below_drew1) | exact HB.out)) hb); clear HB; have HB := n0_; clear n0_; (try clear hb); (try clear hb2); (try clear hk); (try clear hi)))
  go_ret
  exact ⟨by first | rfl | (simp [errW_none, errW_some] <;> rfl) | (simp [*, errW_none, errW_some] <;> rfl), by repeat (first | (with_reducible first | exact HB.out | apply below_alloc | apply pw_below_drewN | apply below_drew1) | exact HB.out)⟩
end Go.Proofs.YtnednnnegofhkaaDoor.Pr
