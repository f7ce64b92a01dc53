/- A part of what the claim of 'FnGrdFind' leans on. -/
import Derived.Test.YtnalfnoebhmijaaDoorFnGrdFindPr0
import Derived.Test.YtnalfnoebhmijaaDoorFnGrdFindP0
import Derived.Test.YtnalfnoebhmijaaDoorFnGrdFindPr44
namespace Go.Proofs.YtnalfnoebhmijaaDoor.Pr
open Go.RowKit Go.Proofs.YtnalfnoebhmijaaDoorW.PrintWords Go.Proofs.YtnalfnoebhmijaaDoorW.PrintLast Go.Proofs.YtnalfnoebhmijaaDoorW.PrintMore
attribute [local go_sem] max2_int min2_int max_two min_two max_three min_three max_four min_four
set_option linter.unusedVariables false
set_option linter.unusedSimpArgs false
def spec_DrawGrdFind.f (k : Nat) (l0 : List Int) : Option (Int × Int × (List (S37)) × Int × Int) := (spec_l20Open.f l0).bind fun bt579 => ((spec_l20Grid.f k bt579.1 bt579.2 12).bind fun bt582 => ((spec_l20Rd_pick.f k bt579.1 bt582.2.2.2 7).bind fun bt588 => ((spec_l20Rd_pick.f k bt579.1 bt588.2 5).bind fun bt590 => (some (bt582.1, bt582.2.1, bt582.2.2.1, bt588.1, bt590.1)))))
theorem bq16_ {w : World} {g : Nat} {t : TypeId} {cs : Array Value} {v : Value} (h : w.heap[g]? = some (.cells cs t (0, 0))) (i : Nat) (e : cs[i]? = some v) : w.cell? ⟨g, i, none⟩ = some v := (blk_cell h i).trans e
abbrev qa16 := @Aside0.mk
set_option maxHeartbeats 8000000 in
set_option maxRecDepth 100000 in
theorem spec_DrawGrdFind.calls (k : Nat) (A0 : Option Addr) (c0 : Nat) (l0 : List Int) (r1 : Int) (r2 : Int) (r3 : List (S37)) (r4 : Int) (r5 : Int) (w : World) (hr0 : Kd.C (Kd.int .u8) w A0 l0.length l0) (hc0 : l0.length ≤ c0) (h : spec_DrawGrdFind.f k l0 = some (r1, r2, r3, r4, r5)) :
  Calls Tryd.prog 16 #[.slice A0 l0.length c0] w fun e w' => ∃ v2_ : Value, e = .returned (.tuple #[.agg #[.int .i64 r1, .int .i64 r2, v2_], .int .i64 r4, .int .i64 r5]) ∧ Kd.R k37 37 w' w.heap.size (fun _ => True) v2_ r3 ∧ Below w.heap.size w w' := by
 have hu33 := Tryd.underlying33;have HR0 := qa16 hr0;have HC0 := qa16 hc0;clear hr0 hc0;have HB := qa16 (Below.refl w.heap.size w);have H := h;unfold spec_DrawGrdFind.f at H;clear h;replace H := Option.bind_eq_some_iff.mp H;obtain ⟨⟨ai, ap⟩, A20, H⟩ := H;(try dsimp only at H);have A2 := qa16 A20;clear A20;replace H := Option.bind_eq_some_iff.mp H;obtain ⟨⟨aj, ak, an, am⟩, A30, H⟩ := H;(try dsimp only at H);have A3 := qa16 A30;clear A30;replace H := Option.bind_eq_some_iff.mp H;obtain ⟨⟨aw, al⟩, A40, H⟩ := H;(try dsimp only at H);have A4 := qa16 A40;clear A40;replace H := Option.bind_eq_some_iff.mp H;obtain ⟨⟨av, au⟩, A50, H⟩ := H;(try dsimp only at H);have A5 := qa16 A50;clear A50;simp only [Option.some.injEq, Prod.mk.injEq] at H;obtain ⟨rfl, rfl, rfl, rfl, rfl⟩ := H;go_enter Tryd.func16, Tryd.ntmps16
 go_wp2_with (first | ((with_reducible refine gate_dst (N := 2) rfl ?_); refine box_event ?hg (N := 2) ?hd (cs := #[.int .i64 0, .int .i64 0, .slice none 0 0]) (t := 33) ?hr ?_; (case hd => rfl); (case hg => rfl); (case hr => go_simp <;> rfl); intro ad hg w6 hbox hb; have n0_ := qa16 (below_step (by repeat (first | (with_reducible first | exact HB.out | apply below_alloc | apply pw_below_drewN | apply below_drew1) | exact HB.out)) hb); have n1_ := qa16 (hbox); have n2_ := qa16 ((by rw [hg]; exact (below_size (by repeat (first | (with_reducible first | exact HB.out | apply below_alloc | apply pw_below_drewN | apply below_drew1) | exact HB.out))) : w.heap.size ≤ ad)); have n3_ := qa16 n2_.out; replace HB := n0_; have aa := n1_; have GW578 := n2_; have ah := n3_; clear n0_ n1_ n2_ n3_; clear hb hbox hg) | ((with_reducible refine gate_callee (f := 24) rfl ?_); refine goesL_ (some 7) rfl rfl Tryd.func24 (by kernel_rfl) rfl #[.slice A0 l0.length c0] rfl (by (try simp only [List.map_toArray, List.map_cons, List.map_nil]); first | done | rfl | (simp only [List.length_drop, List.length_take]; rfl)) ?_; (with_reducible refine (spec_l20Open.calls _ _ l0 ai ap w _ ?side1 ?side2 ?side3 A2.out).mono ?_); (case side1 => repeat (first | (with_reducible first | exact HB.out | apply below_alloc | apply pw_below_drewN | apply below_drew1 | refine below_set ?_ ah.out) | exact HB.out)); (case side2 => exact HR0.out); (case side3 => exact HC0.out); rintro e w7 ⟨af, rfl, hi, hb, hb2⟩; refine ⟨_, rfl, ?_⟩; have n0_ := qa16 (blk_below (g := ad) (by (with_reducible repeat (first | apply blk_drewN | apply blk_drew | apply blk_alloc)); exact aa.out) hb2); have n1_ := qa16 (hb); have n2_ := qa16 (hi); have n3_ := qa16 (IsS77.ne_blk hi (blk_below (g := ad) (by (with_reducible repeat (first | apply blk_drewN | apply blk_drew | apply blk_alloc)); exact aa.out) hb2) (by decide)); have n4_ := qa16 (Ne.symm (IsS77.ne_blk hi (blk_below (g := ad) (by (with_reducible repeat (first | apply blk_drewN | apply blk_drew | apply blk_alloc)); exact aa.out) hb2) (by decide))); replace aa := n0_; replace HB := n1_; have ab := n2_; have ac := n3_; have ae := n4_; clear n0_ n1_ n2_ n3_ n4_; (try clear hb hk hi)) | ((with_reducible refine gate_callee (f := 44) rfl ?_); refine goesL_ (some 9) rfl rfl Tryd.func44 (by kernel_rfl) rfl #[.pointer (some ⟨af, 0, none⟩), .int .i64 12] rfl (by (try simp only [List.map_toArray, List.map_cons, List.map_nil]) <;> rfl) ?_; (with_reducible refine (spec_l20Grid.calls k af ai ap 12 aj ak an am w _ ?side1 ?side2 A3.out).mono ?_); (case side1 => repeat (first | (with_reducible first | exact ab.out | apply IsS77.alloc | apply IsS77.drewN | apply IsS77.drew | apply IsS77.set_1 | refine IsS77.far ?_ ac.out _) | exact ab.out)); (case side2 => repeat (first | (with_reducible first | exact HB.out | apply below_alloc | apply pw_below_drewN | apply below_drew1 | refine below_set ?_ (IsS77.ge ab.out) | refine below_set ?_ ah.out) | exact HB.out)); rintro e w8 ⟨v585, rfl, ho0, hi, hb, hk⟩; refine ⟨_, rfl, ?_⟩; have n0_ := qa16 (KeepBut.blk hk (g' := ad) (by (with_reducible repeat (first | apply blk_drewN | apply blk_drew | apply blk_alloc)); exact aa.out) ae.out (by simp)); have n1_ := qa16 (Kd.R_lower ho0 (below_size (by repeat (first | (with_reducible first | exact HB.out | apply below_alloc | apply pw_below_drewN | apply below_drew1 | refine below_set ?_ (IsS77.ge ab.out) | refine below_set ?_ ah.out) | exact HB.out)))); have n2_ := qa16 (hb); have n3_ := qa16 (hi); replace aa := n0_; have ag := n1_; replace HB := n2_; replace ab := n3_; clear n0_ n1_ n2_ n3_; (try clear hb hk hi); (try clear ho0)) | ((with_reducible refine gate_callee (f := 45) rfl ?_); refine goesL_ (some 11) rfl rfl Tryd.func45 (by kernel_rfl) rfl #[.pointer (some ⟨af, 0, none⟩), .int .i64 7] rfl (by (try simp only [List.map_toArray, List.map_cons, List.map_nil]) <;> rfl) ?_; (with_reducible refine (spec_l20Rd_pick.calls k af ai am 7 aw al w _ ?side1 ?side2 A4.out).mono ?_); (case side1 => repeat (first | (with_reducible first | exact ab.out | apply IsS77.alloc | apply IsS77.drewN | apply IsS77.drew | apply IsS77.set_1 | refine IsS77.far ?_ ac.out _) | exact ab.out)); (case side2 => repeat (first | (with_reducible first | exact HB.out | apply below_alloc | apply pw_below_drewN | apply below_drew1 | refine below_set ?_ (IsS77.ge ab.out) | refine below_set ?_ ah.out) | exact HB.out)); rintro e w9 ⟨rfl, hi, hb, hk⟩; refine ⟨_, rfl, ?_⟩; have n0_ := qa16 (KeepBut.blk hk (g' := ad) (by (with_reducible repeat (first | apply blk_drewN | apply blk_drew | apply blk_alloc)); exact aa.out) ae.out (by simp)); have n1_ := qa16 (Kd.R_mono (Kd.R_keep (IsS77.apart (show IsS77 w _ af ai am from by repeat (first | (with_reducible first | exact ab.out | apply IsS77.alloc | apply IsS77.drewN | apply IsS77.drew | apply IsS77.set_1 | refine IsS77.far ?_ ac.out _) | exact ab.out)) (by (with_reducible repeat (first | apply Kd.R_alloc | apply Kd.R_drewN | apply Kd.R_drew)); exact ag.out) (by decide)) hk (fun _ h => h.2)) (fun _ h => h.1)); have n2_ := qa16 (hb); have n3_ := qa16 (hi); replace aa := n0_; replace ag := n1_; replace HB := n2_; replace ab := n3_; clear n0_ n1_ n2_ n3_; (try clear hb hk hi)) | ((with_reducible refine gate_callee (f := 45) rfl ?_); refine goesL_ (some 13) rfl rfl Tryd.func45 (by kernel_rfl) rfl #[.pointer (some ⟨af, 0, none⟩), .int .i64 5] rfl (by (try simp only [List.map_toArray, List.map_cons, List.map_nil]) <;> rfl) ?_; (with_reducible refine (spec_l20Rd_pick.calls k af ai al 5 av au w _ ?side1 ?side2 A5.out).mono ?_); (case side1 => repeat (first | (with_reducible first | exact ab.out | apply IsS77.alloc | apply IsS77.drewN | apply IsS77.drew | apply IsS77.set_1 | refine IsS77.far ?_ ac.out _) | exact ab.out)); (case side2 => repeat (first | (with_reducible first | exact HB.out | apply below_alloc | apply pw_below_drewN | apply below_drew1 | refine below_set ?_ (IsS77.ge ab.out) | refine below_set ?_ ah.out) | exact HB.out)); rintro e w10 ⟨rfl, hi, hb, hk⟩; refine ⟨_, rfl, ?_⟩; have n0_ := qa16 (KeepBut.blk hk (g' := ad) (by (with_reducible repeat (first | apply blk_drewN | apply blk_drew | apply blk_alloc)); exact aa.out) ae.out (by simp)); have n1_ := qa16 (Kd.R_mono (Kd.R_keep (IsS77.apart (show IsS77 w _ af ai al from by repeat (first | (with_reducible first | exact ab.out | apply IsS77.alloc | apply IsS77.drewN | apply IsS77.drew | apply IsS77.set_1 | refine IsS77.far ?_ ac.out _) | exact ab.out)) (by (with_reducible repeat (first | apply Kd.R_alloc | apply Kd.R_drewN | apply Kd.R_drew)); exact ag.out) (by decide)) hk (fun _ h => h.2)) (fun _ h => h.1)); have n2_ := qa16 (hb); have n3_ := qa16 (hi); replace aa := n0_; replace ag := n1_; replace HB := n2_; replace ab := n3_; clear n0_ n1_ n2_ n3_; (try clear hb hk hi); have hnb11 := ae.out; have hnc11 := ac.out; have aA := bq16_ aa.out 0 rfl; have aB := bq16_ aa.out 1 rfl; have az := bq16_ aa.out 2 rfl; have ax := blk_frozen aa.out 0; have aC := blk_frozen aa.out 1; have ay := blk_frozen aa.out 2; obtain ⟨aq, ao, ar⟩ := Kd.R_slice ag.out; subst ar))
 refine bodyPost_ret (results_ctt rfl _ _ ad 33 #[.int .i64 aj, .int .i64 ak, .slice aq an.length ao] (0, 0) _ rfl (by (with_reducible repeat (first | apply blk_drewN | apply blk_drew | apply blk_alloc)); refine blk_put (cs := #[.int .i64 aj, .int .i64 ak, .slice none 0 0]) ?_ 2 _ rfl; refine blk_put (cs := #[.int .i64 aj, .int .i64 0, .slice none 0 0]) ?_ 1 _ rfl; refine blk_put (cs := #[.int .i64 0, .int .i64 0, .slice none 0 0]) ?_ 0 _ rfl; (with_reducible repeat (first | apply blk_drewN | apply blk_drew | apply blk_alloc)); exact aa.out) Tryd.underlying33 rfl (by kernel_rfl)) rfl ?_;exact ⟨_, by first | rfl | (simp [errW_none, errW_some] <;> rfl) | (simp [*, errW_none, errW_some] <;> rfl), by (with_reducible repeat (first | apply Kd.R_alloc | apply Kd.R_drewN | apply Kd.R_drew)); exact Kd.R_mono (Kd.R_far (p := ⟨ad, 2, none⟩) (Kd.R_far (p := ⟨ad, 1, none⟩) (Kd.R_far (p := ⟨ad, 0, none⟩) (Kd.R_types ag.out aa.out (by decide)) (fun _ hk => hk.2) (.int .i64 aj)) (fun _ hk => hk.2) (.int .i64 ak)) (fun _ hk => hk.2) (.slice aq an.length ao)) (fun _ hk => trivial), by repeat (first | (with_reducible first | exact HB.out | apply below_alloc | apply pw_below_drewN | apply below_drew1 | refine below_set ?_ (IsS77.ge ab.out) | refine below_set ?_ ah.out) | exact HB.out)⟩
end Go.Proofs.YtnalfnoebhmijaaDoor.Pr
namespace Go.Proofs.YtnalfnoebhmijaaDoor.Pr
open Go.RowKit Go.Proofs.YtnalfnoebhmijaaDoorW.PrintWords Go.Proofs.YtnalfnoebhmijaaDoorW.PrintLast Go.Proofs.YtnalfnoebhmijaaDoorW.PrintMore
attribute [local go_sem] max2_int min2_int max_two min_two max_three min_three max_four min_four
set_option linter.unusedVariables false
set_option linter.unusedSimpArgs false
def grdV (x : S37) : Value := .agg #[.int .i64 x.f0, .int .i64 x.f1, .int .i64 x.f2, .int .i64 x.f3, .int .i64 x.f4]
set_option maxHeartbeats 4000000 in
theorem idxGrd_calls (p : S37 → Bool) (g : Nat) (fst lb : Array Value) (eg : ∀ args w, (callFunc g args).run Tryd.prog w = .ok (.enter g args) w) (A : Option Addr) (c : Nat) (l : List S37) (w : World) (hr : Kd.C k37 w A l.length l) (hc : l.length ≤ c)
    (hp : ∀ (W : World) (x : S37), x ∈ l → Below w.heap.size w W → Calls Tryd.prog g (fst.push (grdV x) ++ lb) W fun e w' => e = .returned (.bool (p x)) ∧ Below W.heap.size W w') :
    Calls Tryd.prog 46 #[.slice A l.length c, .func (.func g) fst lb] w fun e w' => e = .returned (.int .i64 (idxOf p l)) ∧ Below w.heap.size w w' := by
  have HR := Aside0.mk hr
  have HP := Aside0.mk hp
  have hm := Kd.C_max hr
  clear hr hp
  go_enter Tryd.func46, Tryd.ntmps46
  go_wp2
  go_loopg [5, 8] l.length (fun gk v5 v8 wr => ∃ k : Nat, k ≤ l.length ∧ l.length - k ≤ gk ∧ v8 = .int .i64 k ∧ Aside0 (Below w.heap.size w wr) ∧ Aside0 (∀ j x, j < k → l[j]? = some x → p x = false))
  case atStart => exact ⟨0, Nat.zero_le _, by omega, rfl, ⟨Below.refl _ w⟩, ⟨fun j x hj => absurd hj (Nat.not_lt_zero _)⟩⟩
  case round =>
    obtain ⟨k, hk, hg, rfl, BW, HN⟩ := hrel
    by_cases hlt : k < l.length
    · have hltz : (k : Int) < (l.length : Int) := by omega
      obtain ⟨ad, eA, hx0, hx1, hx2, hx3, hx4⟩ := at_T37 HR.out (k : Int) (by omega) hltz
      cases eA
      replace hx0 := (BW.out.cell (World.block_lt_of_cell? w _ hx0)).trans hx0
      replace hx1 := (BW.out.cell (World.block_lt_of_cell? w _ hx1)).trans hx1
      replace hx2 := (BW.out.cell (World.block_lt_of_cell? w _ hx2)).trans hx2
      replace hx3 := (BW.out.cell (World.block_lt_of_cell? w _ hx3)).trans hx3
      replace hx4 := (BW.out.cell (World.block_lt_of_cell? w _ hx4)).trans hx4
      rw [Int.toNat_natCast] at hx0 hx1 hx2 hx3 hx4
      have hmem := getD_at l k z37 hlt
      have hrd : rd_T37 l (k : Int) = l.getD (k : Int).toNat z37 := rfl
      rw [← hrd] at hmem
      have hcall := HP.out wr (rd_T37 l k) (List.mem_of_getElem? hmem) BW.out
      unfold grdV at hcall
      have HM := Aside0.mk hmem
      clear hmem hrd
      cases hq : p (rd_T37 l k) with
      | true =>
        rw [hq] at hcall
        have HQ := Aside0.mk hq
        clear hq
        go_wp2_with ((with_reducible refine hcall.mono ?_); rintro e w' ⟨rfl, hb'⟩)
        go_ret
        exact ⟨by rw [idxOf_hit p l k _ HM.out HQ.out HN.out]; rfl, below_then BW.out BW.out.size hb'⟩
      | false =>
        rw [hq] at hcall
        have HQ := Aside0.mk hq
        clear hq
        go_wp2_with ((with_reducible refine hcall.mono ?_); rintro e w' ⟨rfl, hb'⟩)
        go_roundg (l.length - (k + 1))
        case measure => omega
        case rel =>
          refine ⟨k + 1, by omega, by omega, by go_num, ⟨below_then BW.out BW.out.size hb'⟩, ⟨fun j y hj hy => ?_⟩⟩
          by_cases e : j = k
          · subst e
            rw [HM.out] at hy; cases hy; exact HQ.out
          · exact HN.out j y (by omega) hy
    · have hltz : ¬ (k : Int) < (l.length : Int) := by omega
      have : k = l.length := by omega
      subst this
      go_wp2
      go_ret
      exact ⟨by rw [idxOf_miss p l HN.out]; rfl, BW.out⟩
end Go.Proofs.YtnalfnoebhmijaaDoor.Pr
namespace Go.Proofs.YtnalfnoebhmijaaDoor.Pr
open Go.RowKit Go.Proofs.YtnalfnoebhmijaaDoorW.PrintWords Go.Proofs.YtnalfnoebhmijaaDoorW.PrintLast Go.Proofs.YtnalfnoebhmijaaDoorW.PrintMore
attribute [local go_sem] max2_int min2_int max_two min_two max_three min_three max_four min_four
set_option linter.unusedVariables false
set_option linter.unusedSimpArgs false
def findB (row inn : Int) (c : S37) : Bool := decide (c.f0 = row) && decide (c.f4 = inn)
set_option maxHeartbeats 2000000 in
theorem findB_calls (row inn : Int) (g1 g2 : Nat) (x0 x1 x2 x3 x4 : Int) (w : World) (h1 : w.cell? ⟨g1, 0, none⟩ = some (.int .i64 row)) (h2 : w.cell? ⟨g2, 0, none⟩ = some (.int .i64 inn)) :
    Calls Tryd.prog 47 #[.agg #[.int .i64 x0, .int .i64 x1, .int .i64 x2, .int .i64 x3, .int .i64 x4], .pointer (some ⟨g1, 0, none⟩), .pointer (some ⟨g2, 0, none⟩)] w fun e w' => e = .returned (.bool (decide (x0 = row) && decide (x4 = inn))) ∧ Below w.heap.size w w' := by
  have l1 : g1 < w.heap.size := World.block_lt_of_cell? w _ h1
  have l2 : g2 < w.heap.size := World.block_lt_of_cell? w _ h2
  have n1 : ¬ w.heap.size = g1 := by omega
  have n2 : ¬ w.heap.size = g2 := by omega
  by_cases c1 : x0 = row
  · subst c1
    go_enter Tryd.func47, Tryd.ntmps47
    go_wp2
    go_ret
    exact ⟨by simp; rw [Bool.eq_iff_iff]; simp, by repeat (first | exact Below.refl _ _ | apply below_alloc | apply pw_below_drewN | apply below_drew1)⟩
  · have c2 : (x0 == row) = false := beq_eq_false_iff_ne.mpr c1
    go_enter Tryd.func47, Tryd.ntmps47
    go_wp2
    go_ret
    exact ⟨by simp [c1], by repeat (first | exact Below.refl _ _ | apply below_alloc | apply pw_below_drewN | apply below_drew1)⟩
end Go.Proofs.YtnalfnoebhmijaaDoor.Pr
namespace Go.Proofs.YtnalfnoebhmijaaDoor.Pr
open Go.RowKit Go.Proofs.YtnalfnoebhmijaaDoorW.PrintWords Go.Proofs.YtnalfnoebhmijaaDoorW.PrintLast Go.Proofs.YtnalfnoebhmijaaDoorW.PrintMore
attribute [local go_sem] max2_int min2_int max_two min_two max_three min_three max_four min_four
set_option linter.unusedVariables false
set_option linter.unusedSimpArgs false
def impl_GrdFind.f (a0_0 a0_1 : Int) (l0_2 : List S37) (a1 a2 : Int) : Option Int := some (idxOf (findB a1 a2) l0_2)
set_option maxHeartbeats 2000000 in
theorem impl_GrdFind.calls (a0_0 a0_1 : Int) (A0_2 : Option Addr) (c0_2 : Nat) (l0_2 : List S37) (a1 a2 : Int) (r : Int) (w : World) (hr0_2 : Kd.C k37 w A0_2 l0_2.length l0_2) (hc0_2 : l0_2.length ≤ c0_2) (h : impl_GrdFind.f a0_0 a0_1 l0_2 a1 a2 = some r) :
    Calls Tryd.prog 17 #[.agg #[.int .i64 a0_0, .int .i64 a0_1, .slice A0_2 l0_2.length c0_2], .int .i64 a1, .int .i64 a2] w fun e w' => e = .returned (.int .i64 r) ∧ Below w.heap.size w w' := by
  obtain rfl := Option.some.inj h
  clear h
  have bel : ∀ b0 b1 b2, Below w.heap.size w (((w.alloc b0).alloc b1).alloc b2) := fun b0 b1 b2 => below_alloc (below_alloc (below_alloc (Below.refl w.heap.size w) b0) b1) b2
  have hcall : ∀ b0, Calls Tryd.prog 46 #[.slice A0_2 l0_2.length c0_2, .func (.func 47) #[] #[.pointer (some ⟨w.heap.size + 1, 0, none⟩), .pointer (some ⟨w.heap.size + 2, 0, none⟩)]] (((w.alloc b0).alloc (.cells #[.int .i64 a1] 3 (0, 0))).alloc (.cells #[.int .i64 a2] 3 (0, 0)))
      fun e w' => e = .returned (.int .i64 (idxOf (findB a1 a2) l0_2)) ∧ Below (((w.alloc b0).alloc (.cells #[.int .i64 a1] 3 (0, 0))).alloc (.cells #[.int .i64 a2] 3 (0, 0))).heap.size (((w.alloc b0).alloc (.cells #[.int .i64 a1] 3 (0, 0))).alloc (.cells #[.int .i64 a2] 3 (0, 0))) w' := fun b0 => by
    refine idxGrd_calls (findB a1 a2) 47 _ _ (enters_ Tryd.func47 (by kernel_rfl) rfl) A0_2 c0_2 l0_2 _ (Kd.C_below hr0_2 (bel _ _ _)) hc0_2 (fun W x _ hb => ?_)
    have h3 : (((w.alloc b0).alloc (.cells #[.int .i64 a1] 3 (0, 0))).alloc (.cells #[.int .i64 a2] 3 (0, 0))).heap[w.heap.size + 1]? = some (.cells #[.int .i64 a1] 3 (0, 0)) := by
      show (((w.heap.push b0).push (.cells #[.int .i64 a1] 3 (0, 0))).push (.cells #[.int .i64 a2] 3 (0, 0)))[w.heap.size + 1]? = _
      simp [Array.getElem?_push, Array.getElem_push]
    have h4 : (((w.alloc b0).alloc (.cells #[.int .i64 a1] 3 (0, 0))).alloc (.cells #[.int .i64 a2] 3 (0, 0))).heap[w.heap.size + 2]? = some (.cells #[.int .i64 a2] 3 (0, 0)) := by
      show (((w.heap.push b0).push (.cells #[.int .i64 a1] 3 (0, 0))).push (.cells #[.int .i64 a2] 3 (0, 0)))[w.heap.size + 2]? = _
      simp [Array.getElem?_push, Array.getElem_push]
    exact findB_calls a1 a2 (w.heap.size + 1) (w.heap.size + 2) x.f0 x.f1 x.f2 x.f3 x.f4 W (cell_of_one (blk_below h3 hb)) (cell_of_one (blk_below h4 hb))
  have HC := Aside0.mk hcall
  have HB := Aside0.mk bel
  clear hcall bel hr0_2
  go_enter Tryd.func17, Tryd.ntmps17
  go_wp2_with (go_at_call 46; refine (HC.out _).mono ?_; rintro e w' ⟨rfl, hb'⟩)
  go_ret
  exact ⟨rfl, below_then (HB.out _ _ _) (HB.out _ _ _).size hb'⟩
end Go.Proofs.YtnalfnoebhmijaaDoor.Pr
namespace Go.Proofs.YtnalfnoebhmijaaDoor.Pr
open Go.RowKit Go.Proofs.YtnalfnoebhmijaaDoorW.PrintWords Go.Proofs.YtnalfnoebhmijaaDoorW.PrintLast Go.Proofs.YtnalfnoebhmijaaDoorW.PrintMore
attribute [local go_sem] max2_int min2_int max_two min_two max_three min_three max_four min_four
set_option linter.unusedVariables false
set_option linter.unusedSimpArgs false
def spec_GrdFind.l0 : Nat → Int → Int → Int → Int → Int → List (S37) → Option (Int)
  | 0, _, _, _, _, _, _ => none
  | k + 1, x1, x2, x7, x593000, x593001, x593002 => if x7 < (x593002.length : Int) then (if 0 ≤ x7 then (if ((rd_T37 x593002 x7).f0) = x1 then (if ((rd_T37 x593002 x7).f4) = x2 then (some x7) else (spec_GrdFind.l0 k x1 x2 (wrap64 (x7 + 1)) x593000 x593001 x593002)) else (spec_GrdFind.l0 k x1 x2 (wrap64 (x7 + 1)) x593000 x593001 x593002)) else (none)) else (some (-1))
def spec_GrdFind.f (k : Nat) (a0_0 : Int) (a0_1 : Int) (l0_2 : List (S37)) (a1 : Int) (a2 : Int) : Option (Int) := spec_GrdFind.l0 k a1 a2 0 a0_0 a0_1 l0_2
theorem bq18_ {w : World} {g : Nat} {t : TypeId} {cs : Array Value} {v : Value} (h : w.heap[g]? = some (.cells cs t (0, 0))) (i : Nat) (e : cs[i]? = some v) : w.cell? ⟨g, i, none⟩ = some v := (blk_cell h i).trans e
theorem dq18_ {p : Prop} [Decidable p] (h : decide p = true := by first | (with_reducible assumption) | assumption) : p := of_decide_eq_true h
set_option maxHeartbeats 8000000 in
set_option maxRecDepth 100000 in
theorem spec_GrdFind.calls (k : Nat) (a0_0 : Int) (a0_1 : Int) (A0_2 : Option Addr) (c0_2 : Nat) (l0_2 : List (S37)) (a1 : Int) (a2 : Int) (r : Int) (w : World) (hr0_2 : Kd.C k37 w A0_2 l0_2.length l0_2) (hc0_2 : l0_2.length ≤ c0_2) (h : spec_GrdFind.f k a0_0 a0_1 l0_2 a1 a2 = some r) :
  Calls Tryd.prog 18 #[.agg #[.int .i64 a0_0, .int .i64 a0_1, .slice A0_2 l0_2.length c0_2], .int .i64 a1, .int .i64 a2] w fun e w' => e = .returned (.int .i64 r) ∧ Below w.heap.size w w' := by
 have hu33 := Tryd.underlying33;have ar := Aside0.mk hr0_2;have HC0_2 := Aside0.mk hc0_2;clear hr0_2 hc0_2;have HB := Aside0.mk (Below.refl w.heap.size w);have H := h;unfold spec_GrdFind.f at H;clear h;have H' := Aside0.mk H;clear H;go_enter Tryd.func18, Tryd.ntmps18;(go_wp2_with (first | ((with_reducible refine gate_dst (N := 3) rfl ?_); refine box_event ?hg (N := 3) ?hd (cs := #[.int .i64 a0_0, .int .i64 a0_1, .slice A0_2 l0_2.length c0_2]) (t := 33) ?hr ?_; (case hd => rfl); (case hg => rfl); (case hr => go_simp <;> rfl); intro ay hg w4 hbox hb; have n0_ := Aside0.mk (below_step (by repeat (first | (with_reducible first | exact HB.out | apply below_alloc | apply pw_below_drewN | apply below_drew1) | exact HB.out)) hb); have n1_ := Aside0.mk (hbox); have n2_ := Aside0.mk ((by rw [hg]; exact (below_size (by repeat (first | (with_reducible first | exact HB.out | apply below_alloc | apply pw_below_drewN | apply below_drew1) | exact HB.out))) : w.heap.size ≤ ay)); have n3_ := Aside0.mk n2_.out; replace HB := n0_; have aa := n1_; have GW592 := n2_; have aq := n3_; clear n0_ n1_ n2_ n3_; clear hb hbox hg)));go_loopg [7] k (fun kq v7 w' => ∃ (ab : Int), v7 = .int .i64 ab ∧ Aside0 (spec_GrdFind.l0 kq a1 a2 ab a0_0 a0_1 l0_2 = some r) ∧ Aside0 (kq ≤ k) ∧ Aside0 (w'.heap[ay]? = some (.cells #[.int .i64 a0_0, .int .i64 a0_1, (.slice A0_2 l0_2.length c0_2)] 33 (0, 0))) ∧ Aside0 (Below w.heap.size w w'));(case atStart => exact ⟨(0), (by first | rfl | (simp; done) | (simp [*]; done)), H', ⟨Nat.le_refl _⟩, ⟨by (with_reducible repeat (first | apply blk_drewN | apply blk_drew | apply blk_alloc)); exact aa.out⟩, ⟨by repeat (first | (with_reducible first | exact HB.out | apply below_alloc | apply pw_below_drewN | apply below_drew1 | refine below_set ?_ aq.out) | exact HB.out)⟩⟩)
 case round =>
  clear H';(try clear c1);(try clear p2);obtain ⟨ab, rfl, HA, HK1, aa, HB⟩ := hrel
  cases gk with
   | zero => exact absurd HA.out (by simp [spec_GrdFind.l0])
   | succ k1 =>
    have H := HA.out;clear HA;simp only [spec_GrdFind.l0] at H;by_cases c5 : ab < (l0_2.length : Int)
    ·rw [if_pos c5] at H;have aD : decide (ab < (l0_2.length : Int)) = true := decide_eq_true c5;clear c5;by_cases c6 : 0 ≤ ab
     ·rw [if_pos c6] at H;have c6b0 : decide (0 ≤ ab) = true := decide_eq_true c6;clear c6;by_cases c7 : ((rd_T37 l0_2 ab).f0) = a1
      ·rw [if_pos c7] at H;have az : (((rd_T37 l0_2 ab).f0) == a1) = true := beq_iff_eq.mpr c7;have aB : (((rd_T37 l0_2 ab).f0) != a1) = false := bne_eq_false_iff_eq.mpr c7;clear c7;by_cases c8 : ((rd_T37 l0_2 ab).f4) = a2;(·rw [if_pos c8] at H;have aA : (((rd_T37 l0_2 ab).f4) == a2) = true := beq_iff_eq.mpr c8;have aC : (((rd_T37 l0_2 ab).f4) != a2) = false := bne_eq_false_iff_eq.mpr c8;clear c8;obtain rfl := Option.some.inj H;have aZ := bq18_ aa.out 0 rfl;have a5 := bq18_ aa.out 1 rfl;have a6 := bq18_ aa.out 2 rfl;have aW := blk_frozen aa.out 0;have aX := blk_frozen aa.out 1;have aY := blk_frozen aa.out 2;have am : 0 ≤ (ab : Int) := dq18_;have an : ab < (l0_2.length : Int) := dq18_;obtain ⟨au, av, ad, af, ae, ag, ac⟩ := at_T37 ar.out ab am an;cases av;replace ad := (HB.out.cell (World.block_lt_of_cell? w _ ad)).trans ad;replace af := (HB.out.cell (World.block_lt_of_cell? w _ af)).trans af;replace ae := (HB.out.cell (World.block_lt_of_cell? w _ ae)).trans ae;replace ag := (HB.out.cell (World.block_lt_of_cell? w _ ag)).trans ag;replace ac := (HB.out.cell (World.block_lt_of_cell? w _ ac)).trans ac;replace am := eq_true am;replace an := eq_true an;have ap : 0 ≤ (ab : Int) := dq18_;have ao : ab < (l0_2.length : Int) := dq18_;obtain ⟨aw, ax, al, ak, ah, aj, ai⟩ := at_T37 ar.out ab ap ao;obtain rfl : au = aw := (by injection ax);replace al := (HB.out.cell (World.block_lt_of_cell? w _ al)).trans al;replace ak := (HB.out.cell (World.block_lt_of_cell? w _ ak)).trans ak;replace ah := (HB.out.cell (World.block_lt_of_cell? w _ ah)).trans ah;replace aj := (HB.out.cell (World.block_lt_of_cell? w _ aj)).trans aj;replace ai := (HB.out.cell (World.block_lt_of_cell? w _ ai)).trans ai;replace ap := eq_true ap;replace ao := eq_true ao;go_wp2;go_ret;exact ⟨by first | rfl | (simp [errW_none, errW_some] <;> rfl) | (simp [*, errW_none, errW_some] <;> rfl), by repeat (first | (with_reducible first | exact HB.out | apply below_alloc | apply pw_below_drewN | apply below_drew1 | refine below_set ?_ aq.out) | exact HB.out)⟩)
       rw [if_neg c8] at H;have aA : (((rd_T37 l0_2 ab).f4) == a2) = false := beq_eq_false_iff_ne.mpr c8;have aC : (((rd_T37 l0_2 ab).f4) != a2) = true := bne_iff_ne.mpr c8;have H' := Aside0.mk H;clear H;have aS := bq18_ aa.out 0 rfl;have aQ := bq18_ aa.out 1 rfl;have aT := bq18_ aa.out 2 rfl;have aJ := blk_frozen aa.out 0;have aN := blk_frozen aa.out 1;have aE := blk_frozen aa.out 2;have am : 0 ≤ (ab : Int) := dq18_;have an : ab < (l0_2.length : Int) := dq18_;obtain ⟨au, av, ad, af, ae, ag, ac⟩ := at_T37 ar.out ab am an;cases av;replace ad := (HB.out.cell (World.block_lt_of_cell? w _ ad)).trans ad;replace af := (HB.out.cell (World.block_lt_of_cell? w _ af)).trans af;replace ae := (HB.out.cell (World.block_lt_of_cell? w _ ae)).trans ae;replace ag := (HB.out.cell (World.block_lt_of_cell? w _ ag)).trans ag;replace ac := (HB.out.cell (World.block_lt_of_cell? w _ ac)).trans ac;replace am := eq_true am;replace an := eq_true an;have ap : 0 ≤ (ab : Int) := dq18_;have ao : ab < (l0_2.length : Int) := dq18_;obtain ⟨aw, ax, al, ak, ah, aj, ai⟩ := at_T37 ar.out ab ap ao;obtain rfl : au = aw := (by injection ax);replace al := (HB.out.cell (World.block_lt_of_cell? w _ al)).trans al;replace ak := (HB.out.cell (World.block_lt_of_cell? w _ ak)).trans ak;replace ah := (HB.out.cell (World.block_lt_of_cell? w _ ah)).trans ah;replace aj := (HB.out.cell (World.block_lt_of_cell? w _ aj)).trans aj;replace ai := (HB.out.cell (World.block_lt_of_cell? w _ ai)).trans ai;replace ap := eq_true ap;replace ao := eq_true ao;go_wp2;go_roundg k1;(case measure => have := HK1.out; omega);(case rel => exact ⟨(wrap64 (ab + 1)), (by first | rfl | (simp; done) | (simp [*]; done)), H', ⟨by have := HK1.out; omega⟩, ⟨by (with_reducible repeat (first | apply blk_drewN | apply blk_drew | apply blk_alloc)); exact aa.out⟩, ⟨by repeat (first | (with_reducible first | exact HB.out | apply below_alloc | apply pw_below_drewN | apply below_drew1 | refine below_set ?_ aq.out) | exact HB.out)⟩⟩)
      rw [if_neg c7] at H;have az : (((rd_T37 l0_2 ab).f0) == a1) = false := beq_eq_false_iff_ne.mpr c7;have aB : (((rd_T37 l0_2 ab).f0) != a1) = true := bne_iff_ne.mpr c7;have H' := Aside0.mk H;clear H;have aK := bq18_ aa.out 0 rfl;have aP := bq18_ aa.out 1 rfl;have aL := bq18_ aa.out 2 rfl;have aH := blk_frozen aa.out 0;have aM := blk_frozen aa.out 1;have aV := blk_frozen aa.out 2;have am : 0 ≤ (ab : Int) := dq18_;have an : ab < (l0_2.length : Int) := dq18_;obtain ⟨au, av, ad, af, ae, ag, ac⟩ := at_T37 ar.out ab am an;cases av;replace ad := (HB.out.cell (World.block_lt_of_cell? w _ ad)).trans ad;replace af := (HB.out.cell (World.block_lt_of_cell? w _ af)).trans af;replace ae := (HB.out.cell (World.block_lt_of_cell? w _ ae)).trans ae;replace ag := (HB.out.cell (World.block_lt_of_cell? w _ ag)).trans ag;replace ac := (HB.out.cell (World.block_lt_of_cell? w _ ac)).trans ac;replace am := eq_true am;replace an := eq_true an;go_wp2;go_roundg k1;(case measure => have := HK1.out; omega);(case rel => exact ⟨(wrap64 (ab + 1)), (by first | rfl | (simp; done) | (simp [*]; done)), H', ⟨by have := HK1.out; omega⟩, ⟨by (with_reducible repeat (first | apply blk_drewN | apply blk_drew | apply blk_alloc)); exact aa.out⟩, ⟨by repeat (first | (with_reducible first | exact HB.out | apply below_alloc | apply pw_below_drewN | apply below_drew1 | refine below_set ?_ aq.out) | exact HB.out)⟩⟩)
     rw [if_neg c6] at H;exact absurd H (by simp)
    rw [if_neg c5] at H;have aD : decide (ab < (l0_2.length : Int)) = false := decide_eq_false c5;clear c5;obtain rfl := Option.some.inj H;have aO := bq18_ aa.out 0 rfl;have aR := bq18_ aa.out 1 rfl;have aI := bq18_ aa.out 2 rfl;have aF := blk_frozen aa.out 0;have aU := blk_frozen aa.out 1;have aG := blk_frozen aa.out 2;go_wp2;go_ret;exact ⟨by first | rfl | (simp [errW_none, errW_some] <;> rfl) | (simp [*, errW_none, errW_some] <;> rfl), by repeat (first | (with_reducible first | exact HB.out | apply below_alloc | apply pw_below_drewN | apply below_drew1 | refine below_set ?_ aq.out) | exact HB.out)⟩
end Go.Proofs.YtnalfnoebhmijaaDoor.Pr
