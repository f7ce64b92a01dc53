/- A part of what the claim of 'FnGrdPlain' leans on. -/
import Derived.Test.YtnalfnoebhmijaaDoorFnGrdPlainP0
import Derived.Test.YtnalfnoebhmijaaDoorFnGrdPlainPr23
namespace Go.Proofs.YtnalfnoebhmijaaDoor.Pr
open Go.RowKit Go.Proofs.YtnalfnoebhmijaaDoorW.PrintWords Go.Proofs.YtnalfnoebhmijaaDoorW.PrintLast Go.Proofs.YtnalfnoebhmijaaDoorW.PrintMore
attribute [local go_sem] max2_int min2_int max_two min_two max_three min_three max_four min_four
set_option linter.unusedVariables false
set_option linter.unusedSimpArgs false
def spec_l20Open.f (l0 : List Int) : Option (List Int × Int) := if (l0.length : Int) > 2000 then (if 2000 ≤ (l0.length : Int) then (some (l0.take 2000, 0)) else (none)) else (some (l0, 0))
set_option maxHeartbeats 8000000 in
set_option maxRecDepth 100000 in
theorem spec_l20Open.calls (A0 : Option Addr) (c0 : Nat) (l0 : List Int) (r1 : List Int) (r2 : Int) (w0 w : World) (hB : Below w0.heap.size w0 w) (hr0 : Kd.C (Kd.int .u8) w0 A0 l0.length l0) (hc0 : l0.length ≤ c0) (h : spec_l20Open.f l0 = some (r1, r2)) :
  Calls Tryd.prog 24 #[.slice A0 l0.length c0] w fun e w' => ∃ g_ : Nat, e = .returned (.pointer (some ⟨g_, 0, none⟩)) ∧ IsS77 w0 w' g_ r1 r2 ∧ Below w0.heap.size w0 w' ∧ Below w.heap.size w w' := by
 have hu77 := Tryd.underlying77;have HR0 := Aside0.mk hr0;have HC0 := Aside0.mk hc0;clear hr0 hc0;have HBW := Aside0.mk (Below.refl w.heap.size w);have HW0 := Aside0.mk hB.size;have HB := Aside0.mk hB;clear hB;have H := h;unfold spec_l20Open.f at H;clear h;by_cases c2 : (l0.length : Int) > 2000;(·rw [if_pos c2] at H;have am : decide (2000 < (l0.length : Int)) = true := decide_eq_true c2;have al : decide (2000 < l0.length) = true := decide_eq_true (by omega);clear c2;by_cases c3 : 2000 ≤ (l0.length : Int);(·rw [if_pos c3] at H;have c3b0 := eq_true c3;have c3b1 : decide (2000 ≤ (l0.length : Int)) = true := decide_eq_true c3;clear c3;simp only [Option.some.injEq, Prod.mk.injEq] at H;obtain ⟨rfl, rfl⟩ := H;obtain ⟨i04, ae, _, af, _⟩ := info_parts info5;obtain ⟨hcut4, hA4, hC4⟩ := print_take_of (P := Tryd.prog) (Value.int .u8) 0 22 5 .i64 Tryd.underlying22 ae af A0 c0 l0 2000 (by omega) (of_decide_eq_true (by first | (with_reducible assumption) | assumption)) HC0.out;have aj := Aside0.mk (Kd.C_of_reads (h1 := fun _ => rfl) (hA4 _ (Kd.reads_of_C HR0.out)));have HC359 := Aside0.mk hC4;clear hA4 hC4 ae af;go_enter Tryd.func24, Tryd.ntmps24;(go_wp2_with (first | ((with_reducible refine gate_dst (N := 10) rfl ?_); refine bx_ 10 #[.slice A0 (l0.take 2000).length c0, .int .i64 0] 77 ?_; intro aa hg w5 hbox hb; have n0_ := Aside0.mk (below_step HBW.out hb); have n1_ := Aside0.mk (below_step (bl_ HB.out) hb); have n2_ := Aside0.mk (hbox); have n3_ := Aside0.mk ((sz_ (below_size (bl_ HBW.out)) hg : w.heap.size ≤ aa)); have n4_ := Aside0.mk ((Nat.le_trans HW0.out (sz_ (below_size (bl_ HBW.out)) hg : w.heap.size ≤ aa) : w0.heap.size ≤ aa)); clear HBW; have HBW := n0_; replace HB := n1_; have ak := n2_; have ag := n3_; have ac := n4_; clear n0_ n1_ n2_ n3_ n4_; clear hb hbox hg)));go_ret;exact ⟨_, rfl, (show IsS77 w0 _ aa (l0.take 2000) 0 from ⟨_, _, by (with_reducible repeat (first | apply blk_drewN | apply blk_drew | apply blk_alloc)); exact ak.out, ac.out, aj.out⟩), bl_ HB.out, bl_ HBW.out⟩);rw [if_neg c3] at H;exact absurd H (by simp))
 rw [if_neg c2] at H;have am : decide (2000 < (l0.length : Int)) = false := decide_eq_false c2;have al : decide (2000 < l0.length) = false := decide_eq_false (by omega);clear c2;simp only [Option.some.injEq, Prod.mk.injEq] at H;obtain ⟨rfl, rfl⟩ := H;go_enter Tryd.func24, Tryd.ntmps24;(go_wp2_with (first | ((with_reducible refine gate_dst (N := 10) rfl ?_); refine bx_ 10 #[.slice A0 l0.length c0, .int .i64 0] 77 ?_; intro ab hg w6 hbox hb; have n0_ := Aside0.mk (below_step HBW.out hb); have n1_ := Aside0.mk (below_step (bl_ HB.out) hb); have n2_ := Aside0.mk (hbox); have n3_ := Aside0.mk ((sz_ (below_size (bl_ HBW.out)) hg : w.heap.size ≤ ab)); have n4_ := Aside0.mk ((Nat.le_trans HW0.out (sz_ (below_size (bl_ HBW.out)) hg : w.heap.size ≤ ab) : w0.heap.size ≤ ab)); clear HBW; have HBW := n0_; replace HB := n1_; have ah := n2_; have ai := n3_; have ad := n4_; clear n0_ n1_ n2_ n3_ n4_; clear hb hbox hg)));go_ret;exact ⟨_, rfl, (show IsS77 w0 _ ab l0 0 from ⟨_, _, by (with_reducible repeat (first | apply blk_drewN | apply blk_drew | apply blk_alloc)); exact ah.out, ad.out, HR0.out⟩), bl_ HB.out, bl_ HBW.out⟩
end Go.Proofs.YtnalfnoebhmijaaDoor.Pr
namespace Go.Proofs.YtnalfnoebhmijaaDoor.Pr
open Go.RowKit Go.Proofs.YtnalfnoebhmijaaDoorW.PrintWords Go.Proofs.YtnalfnoebhmijaaDoorW.PrintLast Go.Proofs.YtnalfnoebhmijaaDoorW.PrintMore
attribute [local go_sem] max2_int min2_int max_two min_two max_three min_three max_four min_four
set_option linter.unusedVariables false
set_option linter.unusedSimpArgs false
def spec_DrawGrdOf.f (k : Nat) (l0 : List Int) : Option ((List (S53)) × Int × Int × (List (S56)) × Int) := (spec_l20Open.f l0).bind fun bt363 => ((spec_l20AnyTable.f k bt363.1 bt363.2 12).bind fun bt366 => (some (bt366.1, bt366.2.1, bt366.2.2.1, bt366.2.2.2.1, bt366.2.2.2.2.1)))
theorem bj7_ {b : Nat} {w W W' : World} (h : Below b w W) (e : Below b w W → Below b w W' := by intro h_; repeat (first | (with_reducible first | exact h_ | apply below_alloc | apply pw_below_drewN | apply below_drew1 | refine below_set ?_ (Aside0.out (by assumption)) | refine below_set ?_ (IsS77.ge (Aside0.out (by assumption)))) | exact h_)) : Below b w W' := e h
theorem is7_ {p q : Prop} (h : p) (e : p → q := by intro h_; repeat (first | (with_reducible first | exact h_ | apply IsS77.alloc | apply IsS77.drew | apply IsS77.drewN | apply IsS77.set_1 | refine IsS77.far ?_ (Aside0.out (by assumption)) _) | exact h_)) : q := e h
set_option maxHeartbeats 8000000 in
set_option maxRecDepth 100000 in
theorem spec_DrawGrdOf.calls (k : Nat) (A0 : Option Addr) (c0 : Nat) (l0 : List Int) (r1 : List (S53)) (r2 : Int) (r3 : Int) (r4 : List (S56)) (r5 : Int) (w : World) (hr0 : Kd.C (Kd.int .u8) w A0 l0.length l0) (hc0 : l0.length ≤ c0) (h : spec_DrawGrdOf.f k l0 = some (r1, r2, r3, r4, r5)) :
  Calls Tryd.prog 7 #[.slice A0 l0.length c0] w fun e w' => ∃ v0_ v3_ : Value, e = .returned (.agg #[v0_, .int .i64 r2, .int .i64 r3, v3_, .int .i64 r5]) ∧ Kd.R k53 53 w' w.heap.size (fun _ => True) v0_ r1 ∧ Kd.S k56 56 w' w.heap.size (fun _ => True) v3_ r4 ∧ Below w.heap.size w w' := by
 have hu26 := Tryd.underlying26;have HR0 := Aside0.mk hr0;have HC0 := Aside0.mk hc0;clear hr0 hc0;have HB := Aside0.mk (Below.refl w.heap.size w);have H := h;unfold spec_DrawGrdOf.f at H;clear h;obtain ⟨⟨aq, ar⟩, A2, H⟩ := ob_ H;(try dsimp only at H);obtain ⟨⟨ad, ae, ag, aj, ak, au⟩, A3, H⟩ := ob_ H;(try dsimp only at H);simp only [Option.some.injEq, Prod.mk.injEq] at H;obtain ⟨rfl, rfl, rfl, rfl, rfl⟩ := H;go_enter Tryd.func7, Tryd.ntmps7
 go_wp2_with (first | ((with_reducible refine gate_dst (N := 2) rfl ?_); refine bx_ 2 #[.slice none 0 0, .int .i64 0, .int .i64 0, .slice none 0 0, .int .i64 0] 26 ?_; intro ab hg w4 hbox hb; have n0_ := Aside0.mk (below_step (bl_ HB.out) hb); have n1_ := Aside0.mk (hbox); have n2_ := Aside0.mk ((sz_ (below_size (bl_ HB.out)) hg : w.heap.size ≤ ab)); have n3_ := Aside0.mk n2_.out; replace HB := n0_; have aa := n1_; have GW362 := n2_; have af := n3_; clear n0_ n1_ n2_ n3_; clear hb hbox hg) | ((with_reducible refine gate_callee (f := 24) rfl ?_); refine gl_ (some 4) Tryd.func24 #[.slice A0 l0.length c0] ?_; (with_reducible refine (spec_l20Open.calls _ _ l0 aq ar w _ ?side1 ?side2 ?side3 A2.out).mono ?_); (case side1 => exact bl_ HB.out); (case side2 => exact HR0.out); (case side3 => exact HC0.out); rintro e w5 ⟨ap, rfl, hi, hb, hb2⟩; refine ⟨_, rfl, ?_⟩; have n0_ := Aside0.mk (blk_below (g := ab) (kb_ aa.out) hb2); have n1_ := Aside0.mk (hb); have n2_ := Aside0.mk (hi); have n3_ := Aside0.mk (IsS77.ne_blk hi (blk_below (g := ab) (kb_ aa.out) hb2) (by decide)); have n4_ := Aside0.mk (Ne.symm (IsS77.ne_blk hi (blk_below (g := ab) (kb_ aa.out) hb2) (by decide))); replace aa := n0_; replace HB := n1_; have ac := n2_; have ai := n3_; have ah := n4_; clear n0_ n1_ n2_ n3_ n4_; (try clear hb hk hi)) | ((with_reducible refine gate_callee (f := 23) rfl ?_); refine gl_ (some 5) Tryd.func23 #[.pointer (some ⟨ap, 0, none⟩), .int .i64 12] ?_; (with_reducible refine (spec_l20AnyTable.calls k ap aq ar 12 ad ae ag aj ak au w _ ?side1 ?side2 A3.out).mono ?_); (case side1 => exact is7_ ac.out); (case side2 => exact bj7_ HB.out); rintro e w6 ⟨v367, v372, rfl, ho0, ho1, hi, hb, hk⟩; refine ⟨_, rfl, ?_⟩; have n0_ := Aside0.mk (KeepBut.blk hk (g' := ab) (kb_ aa.out) ah.out (by simp)); have n1_ := Aside0.mk (Kd.R_lower ho0 (below_size (bj7_ HB.out))); have n2_ := Aside0.mk (Kd.S_lower ho1 (below_size (bj7_ HB.out))); have n3_ := Aside0.mk (hb); have n4_ := Aside0.mk (hi); replace aa := n0_; have ao := n1_; have an := n2_; replace HB := n3_; replace ac := n4_; clear n0_ n1_ n2_ n3_ n4_; (try clear hb hk hi); (try clear ho0); (try clear ho1); obtain ⟨Ao7, co7, eo7⟩ := Kd.R_slice ao.out; subst eo7; have hnb8 := ah.out; have hnc8 := ai.out; have aC := c5_ aa.out; obtain ⟨al, am, av⟩ := Kd.S_slice an.out; subst av))
 refine bodyPost_ret (results_cell_row rfl _ _ ab 26 #[.slice Ao7 ad.length co7, .int .i64 ae, .int .i64 ag, .slice al aj.length am, .int .i64 ak] (0, 0) _ rfl (kf_ aa.out) Tryd.underlying26 rfl (by kernel_rfl)) rfl ?_;exact ⟨_, _, by first | rfl | (simp [errW_none, errW_some] <;> rfl) | (simp [*, errW_none, errW_some] <;> rfl), by (with_reducible repeat (first | apply Kd.R_alloc | apply Kd.R_drewN | apply Kd.R_drew)); exact Kd.R_mono (Kd.R_far (p := ⟨ab, 4, none⟩) (Kd.R_far (p := ⟨ab, 3, none⟩) (Kd.R_far (p := ⟨ab, 2, none⟩) (Kd.R_far (p := ⟨ab, 1, none⟩) (Kd.R_far (p := ⟨ab, 0, none⟩) (Kd.R_types ao.out aa.out (by decide)) (fun _ hk => hk.2) (.slice Ao7 ad.length co7)) (fun _ hk => hk.2) (.int .i64 ae)) (fun _ hk => hk.2) (.int .i64 ag)) (fun _ hk => hk.2) (.slice al aj.length am)) (fun _ hk => hk.2) (.int .i64 ak)) (fun _ hk => trivial), by (with_reducible repeat (first | apply Kd.S_alloc | apply Kd.S_drewN | apply Kd.S_drew)); exact Kd.S_mono (Kd.S_far (p := ⟨ab, 4, none⟩) (Kd.S_far (p := ⟨ab, 3, none⟩) (Kd.S_far (p := ⟨ab, 2, none⟩) (Kd.S_far (p := ⟨ab, 1, none⟩) (Kd.S_far (p := ⟨ab, 0, none⟩) (Kd.S_types an.out aa.out (by decide)) (fun _ hk => hk.2) (.slice Ao7 ad.length co7)) (fun _ hk => hk.2) (.int .i64 ae)) (fun _ hk => hk.2) (.int .i64 ag)) (fun _ hk => hk.2) (.slice al aj.length am)) (fun _ hk => hk.2) (.int .i64 ak)) (fun _ hk => trivial), bj7_ HB.out⟩
end Go.Proofs.YtnalfnoebhmijaaDoor.Pr
namespace Go.Proofs.YtnalfnoebhmijaaDoor.Pr
open Go.RowKit Go.Proofs.YtnalfnoebhmijaaDoorW.PrintWords Go.Proofs.YtnalfnoebhmijaaDoorW.PrintLast Go.Proofs.YtnalfnoebhmijaaDoorW.PrintMore
attribute [local go_sem] max2_int min2_int max_two min_two max_three min_three max_four min_four
set_option linter.unusedVariables false
set_option linter.unusedSimpArgs false
def impl_in.f (a0 : Int) (a1 : Int) (a2 : Int) : Option (Bool) := if a0 ≥ a1 then (some (decide (a0 ≤ a2))) else (some false)
set_option maxHeartbeats 8000000 in
set_option maxRecDepth 100000 in
theorem impl_in.calls (a0 : Int) (a1 : Int) (a2 : Int) (r : Bool) (w : World) (h : impl_in.f a0 a1 a2 = some r) :
    Calls Tryd.prog 28 #[.int .i64 a0, .int .i64 a1, .int .i64 a2] w fun e w' => e = .returned (.bool r) ∧ Drawn0 w w' := by
  have H : (if a0 ≥ a1 then (some (decide (a0 ≤ a2))) else (some false)) = some r := h
  clear h
  by_cases c4 : a0 ≥ a1
  · rw [if_pos c4] at H
    have c4b0 : decide (a1 ≤ a0) = true := decide_eq_true c4
    clear c4
    obtain rfl := Option.some.inj H
    go_enter Tryd.func28, Tryd.ntmps28
    go_wp2
    go_ret
    exact ⟨by first | rfl | (simp; done) | (simp [*]; done), by repeat (first | exact Drawn0.refl _ | apply Drawn0.step)⟩
  · rw [if_neg c4] at H
    have c4b0 : decide (a1 ≤ a0) = false := decide_eq_false c4
    clear c4
    obtain rfl := Option.some.inj H
    go_enter Tryd.func28, Tryd.ntmps28
    go_wp2
    go_ret
    exact ⟨by first | rfl | (simp; done) | (simp [*]; done), by repeat (first | exact Drawn0.refl _ | apply Drawn0.step)⟩
end Go.Proofs.YtnalfnoebhmijaaDoor.Pr
namespace Go.Proofs.YtnalfnoebhmijaaDoor.Pr
open Go.RowKit Go.Proofs.YtnalfnoebhmijaaDoorW.PrintWords Go.Proofs.YtnalfnoebhmijaaDoorW.PrintLast Go.Proofs.YtnalfnoebhmijaaDoorW.PrintMore
attribute [local go_sem] max2_int min2_int max_two min_two max_three min_three max_four min_four
set_option linter.unusedVariables false
set_option linter.unusedSimpArgs false
def tblColV (x : S53) : Value := .agg #[.int .i64 x.f0, .int .i64 x.f1]
set_option maxHeartbeats 4000000 in
theorem idxTblCol_calls (p : S53 → Bool) (g : Nat) (fst lb : Array Value) (eg : ∀ args w, (callFunc g args).run Tryd.prog w = .ok (.enter g args) w) (A : Option Addr) (c : Nat) (l : List S53) (w : World) (hr : Kd.C k53 w A l.length l) (hc : l.length ≤ c)
    (hp : ∀ (W : World) (x : S53), x ∈ l → Below w.heap.size w W → Calls Tryd.prog g (fst.push (tblColV x) ++ lb) W fun e w' => e = .returned (.bool (p x)) ∧ Below W.heap.size W w') :
    Calls Tryd.prog 53 #[.slice A l.length c, .func (.func g) fst lb] w fun e w' => e = .returned (.int .i64 (idxOf p l)) ∧ Below w.heap.size w w' := by
  have HR := Aside0.mk hr
  have HP := Aside0.mk hp
  have hm := Kd.C_max hr
  clear hr hp
  go_enter Tryd.func53, Tryd.ntmps53
  go_wp2
  go_loopg [5, 8] l.length (fun gk v5 v8 wr => ∃ k : Nat, k ≤ l.length ∧ l.length - k ≤ gk ∧ v8 = .int .i64 k ∧ Aside0 (Below w.heap.size w wr) ∧ Aside0 (∀ j x, j < k → l[j]? = some x → p x = false))
  case atStart => exact ⟨0, Nat.zero_le _, by omega, rfl, ⟨Below.refl _ w⟩, ⟨fun j x hj => absurd hj (Nat.not_lt_zero _)⟩⟩
  case round =>
    obtain ⟨k, hk, hg, rfl, BW, HN⟩ := hrel
    by_cases hlt : k < l.length
    · have hltz : (k : Int) < (l.length : Int) := by omega
      obtain ⟨ad, eA, hx0, hx1⟩ := at_T53 HR.out (k : Int) (by omega) hltz
      cases eA
      replace hx0 := (BW.out.cell (World.block_lt_of_cell? w _ hx0)).trans hx0
      replace hx1 := (BW.out.cell (World.block_lt_of_cell? w _ hx1)).trans hx1
      rw [Int.toNat_natCast] at hx0 hx1
      have hmem := getD_at l k z53 hlt
      have hrd : rd_T53 l (k : Int) = l.getD (k : Int).toNat z53 := rfl
      rw [← hrd] at hmem
      have hcall := HP.out wr (rd_T53 l k) (List.mem_of_getElem? hmem) BW.out
      unfold tblColV at hcall
      have HM := Aside0.mk hmem
      clear hmem hrd
      cases hq : p (rd_T53 l k) with
      | true =>
        rw [hq] at hcall
        have HQ := Aside0.mk hq
        clear hq
        go_wp2_with ((with_reducible refine hcall.mono ?_); rintro e w' ⟨rfl, hb'⟩)
        go_ret
        exact ⟨by rw [idxOf_hit p l k _ HM.out HQ.out HN.out]; rfl, below_then BW.out BW.out.size hb'⟩
      | false =>
        rw [hq] at hcall
        have HQ := Aside0.mk hq
        clear hq
        go_wp2_with ((with_reducible refine hcall.mono ?_); rintro e w' ⟨rfl, hb'⟩)
        go_roundg (l.length - (k + 1))
        case measure => omega
        case rel =>
          refine ⟨k + 1, by omega, by omega, by go_num, ⟨below_then BW.out BW.out.size hb'⟩, ⟨fun j y hj hy => ?_⟩⟩
          by_cases e : j = k
          · subst e
            rw [HM.out] at hy; cases hy; exact HQ.out
          · exact HN.out j y (by omega) hy
    · have hltz : ¬ (k : Int) < (l.length : Int) := by omega
      have : k = l.length := by omega
      subst this
      go_wp2
      go_ret
      exact ⟨by rw [idxOf_miss p l HN.out]; rfl, BW.out⟩
end Go.Proofs.YtnalfnoebhmijaaDoor.Pr
namespace Go.Proofs.YtnalfnoebhmijaaDoor.Pr
open Go.RowKit Go.Proofs.YtnalfnoebhmijaaDoorW.PrintWords Go.Proofs.YtnalfnoebhmijaaDoorW.PrintLast Go.Proofs.YtnalfnoebhmijaaDoorW.PrintMore
attribute [local go_sem] max2_int min2_int max_two min_two max_three min_three max_four min_four
set_option linter.unusedVariables false
set_option linter.unusedSimpArgs false
set_option maxHeartbeats 2000000 in
theorem contTblCol_calls (p : S53 → Bool) (g : Nat) (fst lb : Array Value) (eg : ∀ args w, (callFunc g args).run Tryd.prog w = .ok (.enter g args) w) (A : Option Addr) (c : Nat) (l : List S53) (w : World) (hr : Kd.C k53 w A l.length l) (hc : l.length ≤ c)
    (hp : ∀ (W : World) (x : S53), x ∈ l → Below w.heap.size w W → Calls Tryd.prog g (fst.push (tblColV x) ++ lb) W fun e w' => e = .returned (.bool (p x)) ∧ Below W.heap.size W w') :
    Calls Tryd.prog 29 #[.slice A l.length c, .func (.func g) fst lb] w fun e w' => e = .returned (.bool (l.any p)) ∧ Below w.heap.size w w' := by
  have hcall := fun W (hb : W = w) => idxTblCol_calls p g fst lb eg A c l W (hb ▸ hr) hc (hb ▸ hp)
  have HC := Aside0.mk hcall
  clear hcall hr hp hc
  have hi := idxOf_range p l
  have hd : decide (0 ≤ idxOf p l) = l.any p := by
    cases h : l.any p
    · apply decide_eq_false; intro q; have := hi.2.2.mp q; rw [h] at this; cases this
    · exact decide_eq_true (hi.2.2.mpr h)
  have HD := Aside0.mk hd
  clear hd hi
  go_enter Tryd.func29, Tryd.ntmps29
  go_wp2_with (go_at_call 53; refine (HC.out _ rfl).mono ?_; rintro e w' ⟨rfl, hb'⟩)
  go_ret
  exact ⟨by rw [← HD.out]; rfl, hb'⟩
end Go.Proofs.YtnalfnoebhmijaaDoor.Pr
namespace Go.Proofs.YtnalfnoebhmijaaDoor.Pr
open Go.RowKit Go.Proofs.YtnalfnoebhmijaaDoorW.PrintWords Go.Proofs.YtnalfnoebhmijaaDoorW.PrintLast Go.Proofs.YtnalfnoebhmijaaDoorW.PrintMore
attribute [local go_sem] max2_int min2_int max_two min_two max_three min_three max_four min_four
set_option linter.unusedVariables false
set_option linter.unusedSimpArgs false
def impl_TblCol_ok.f (a0_0 : Int) (a0_1 : Int) : Option (Bool) := if a0_0 = 0 then (some (a0_1 == 0)) else (if a0_0 = 1 then ((impl_in.f a0_1 0 60).bind fun t377 => (some t377)) else (if a0_0 = 2 then ((impl_in.f a0_1 1 100).bind fun t378 => (some t378)) else (some false)))
set_option maxHeartbeats 8000000 in
set_option maxRecDepth 100000 in
theorem impl_TblCol_ok.calls (a0_0 : Int) (a0_1 : Int) (r : Bool) (w : World) (h : impl_TblCol_ok.f a0_0 a0_1 = some r) :
  Calls Tryd.prog 31 #[.agg #[.int .i64 a0_0, .int .i64 a0_1]] w fun e w' => e = .returned (.bool r) ∧ Below w.heap.size w w' := by
 have hu53 := Tryd.underlying53;have HB := Aside0.mk (Below.refl w.heap.size w);have H := h;unfold impl_TblCol_ok.f at H;clear h;by_cases c2 : a0_0 = 0;(·rw [if_pos c2] at H;have ai : (a0_0 == 0) = true := beq_iff_eq.mpr c2;have af : (a0_0 != 0) = false := bne_eq_false_iff_eq.mpr c2;clear c2;obtain rfl := Option.some.inj H;go_enter Tryd.func31, Tryd.ntmps31;(go_wp2_with (first | ((with_reducible refine gate_dst (N := 1) rfl ?_); refine bx_ 1 #[.int .i64 a0_0, .int .i64 a0_1] 53 ?_; intro ac hg w3 hbox hb; have n0_ := Aside0.mk (below_step (bl_ HB.out) hb); have n1_ := Aside0.mk (hbox); have n2_ := Aside0.mk ((sz_ (below_size (bl_ HB.out)) hg : w.heap.size ≤ ac)); have n3_ := Aside0.mk n2_.out; replace HB := n0_; have aa := n1_; have ad := n2_; have ab := n3_; clear n0_ n1_ n2_ n3_; clear hb hbox hg; have av := c2_ aa.out)));go_ret;exact ⟨by first | rfl | (simp [errW_none, errW_some] <;> rfl) | (simp [*, errW_none, errW_some] <;> rfl), bl_ HB.out⟩)
 rw [if_neg c2] at H;have ai : (a0_0 == 0) = false := beq_eq_false_iff_ne.mpr c2;have af : (a0_0 != 0) = true := bne_iff_ne.mpr c2;by_cases c5 : a0_0 = 1;(·rw [if_pos c5] at H;have ak : (a0_0 == 1) = true := beq_iff_eq.mpr c5;have ah : (a0_0 != 1) = false := bne_eq_false_iff_eq.mpr c5;clear c5;obtain ⟨t377, A6, H⟩ := ob_ H;(try dsimp only at H);obtain rfl := Option.some.inj H;go_enter Tryd.func31, Tryd.ntmps31;(go_wp2_with (first | ((with_reducible refine gate_dst (N := 1) rfl ?_); refine bx_ 1 #[.int .i64 a0_0, .int .i64 a0_1] 53 ?_; intro ac hg w7 hbox hb; have n0_ := Aside0.mk (below_step (bl_ HB.out) hb); have n1_ := Aside0.mk (hbox); have n2_ := Aside0.mk ((sz_ (below_size (bl_ HB.out)) hg : w.heap.size ≤ ac)); have n3_ := Aside0.mk n2_.out; replace HB := n0_; have aa := n1_; have ad := n2_; have ab := n3_; clear n0_ n1_ n2_ n3_; clear hb hbox hg; have aB := c2_ aa.out) | ((with_reducible refine gate_callee (f := 28) rfl ?_); refine gl_ (some 14) Tryd.func28 #[.int .i64 a0_1, .int .i64 0, .int .i64 60] ?_; (with_reducible refine (impl_in.calls a0_1 0 60 t377 _ A6.out).mono ?_); rintro e w' ⟨rfl, ⟨nd, rfl⟩⟩; refine ⟨_, rfl, ?_⟩)));go_ret;exact ⟨by first | rfl | (simp [errW_none, errW_some] <;> rfl) | (simp [*, errW_none, errW_some] <;> rfl), bl_ HB.out⟩)
 rw [if_neg c5] at H;have ak : (a0_0 == 1) = false := beq_eq_false_iff_ne.mpr c5;have ah : (a0_0 != 1) = true := bne_iff_ne.mpr c5;by_cases c9 : a0_0 = 2;(·rw [if_pos c9] at H;have aj : (a0_0 == 2) = true := beq_iff_eq.mpr c9;have ag : (a0_0 != 2) = false := bne_eq_false_iff_eq.mpr c9;clear c9;obtain ⟨t378, A10, H⟩ := ob_ H;(try dsimp only at H);obtain rfl := Option.some.inj H;go_enter Tryd.func31, Tryd.ntmps31;(go_wp2_with (first | ((with_reducible refine gate_dst (N := 1) rfl ?_); refine bx_ 1 #[.int .i64 a0_0, .int .i64 a0_1] 53 ?_; intro ac hg w11 hbox hb; have n0_ := Aside0.mk (below_step (bl_ HB.out) hb); have n1_ := Aside0.mk (hbox); have n2_ := Aside0.mk ((sz_ (below_size (bl_ HB.out)) hg : w.heap.size ≤ ac)); have n3_ := Aside0.mk n2_.out; replace HB := n0_; have aa := n1_; have ad := n2_; have ab := n3_; clear n0_ n1_ n2_ n3_; clear hb hbox hg; have ao := c2_ aa.out) | ((with_reducible refine gate_callee (f := 28) rfl ?_); refine gl_ (some 19) Tryd.func28 #[.int .i64 a0_1, .int .i64 1, .int .i64 100] ?_; (with_reducible refine (impl_in.calls a0_1 1 100 t378 _ A10.out).mono ?_); rintro e w' ⟨rfl, ⟨nd, rfl⟩⟩; refine ⟨_, rfl, ?_⟩)));go_ret;exact ⟨by first | rfl | (simp [errW_none, errW_some] <;> rfl) | (simp [*, errW_none, errW_some] <;> rfl), bl_ HB.out⟩)
 rw [if_neg c9] at H;have aj : (a0_0 == 2) = false := beq_eq_false_iff_ne.mpr c9;have ag : (a0_0 != 2) = true := bne_iff_ne.mpr c9;obtain rfl := Option.some.inj H;go_enter Tryd.func31, Tryd.ntmps31;(go_wp2_with (first | ((with_reducible refine gate_dst (N := 1) rfl ?_); refine bx_ 1 #[.int .i64 a0_0, .int .i64 a0_1] 53 ?_; intro ac hg w13 hbox hb; have n0_ := Aside0.mk (below_step (bl_ HB.out) hb); have n1_ := Aside0.mk (hbox); have n2_ := Aside0.mk ((sz_ (below_size (bl_ HB.out)) hg : w.heap.size ≤ ac)); have n3_ := Aside0.mk n2_.out; replace HB := n0_; have aa := n1_; have ad := n2_; have ab := n3_; clear n0_ n1_ n2_ n3_; clear hb hbox hg; have ap := c2_ aa.out)));go_ret;exact ⟨by first | rfl | (simp [errW_none, errW_some] <;> rfl) | (simp [*, errW_none, errW_some] <;> rfl), bl_ HB.out⟩
end Go.Proofs.YtnalfnoebhmijaaDoor.Pr
namespace Go.Proofs.YtnalfnoebhmijaaDoor.Pr
open Go.RowKit Go.Proofs.YtnalfnoebhmijaaDoorW.PrintWords Go.Proofs.YtnalfnoebhmijaaDoorW.PrintLast Go.Proofs.YtnalfnoebhmijaaDoorW.PrintMore
attribute [local go_sem] max2_int min2_int max_two min_two max_three min_three max_four min_four
set_option linter.unusedVariables false
set_option linter.unusedSimpArgs false
def impl_TblOk_1.f (a0_0 : Int) (a0_1 : Int) : Option (Bool) := (impl_TblCol_ok.f a0_0 a0_1).bind fun t380 => (some (!t380))
set_option maxHeartbeats 8000000 in
set_option maxRecDepth 100000 in
theorem impl_TblOk_1.calls (a0_0 : Int) (a0_1 : Int) (r : Bool) (w : World) (h : impl_TblOk_1.f a0_0 a0_1 = some r) :
    Calls Tryd.prog 30 #[.agg #[.int .i64 a0_0, .int .i64 a0_1]] w fun e w' => e = .returned (.bool r) ∧ Below w.heap.size w w' := by
  have hu53 := Tryd.underlying53
  have HB := Aside0.mk (Below.refl w.heap.size w)
  have H : ((impl_TblCol_ok.f a0_0 a0_1).bind fun t380 => (some (!t380))) = some r := h
  clear h
  replace H := Option.bind_eq_some_iff.mp H
  obtain ⟨t380, A20, H⟩ := H
  replace H : (some (!t380)) = some r := H
  have A2 := Aside0.mk A20
  clear A20
  obtain rfl := Option.some.inj H
  go_enter Tryd.func30, Tryd.ntmps30
  go_wp2_with (first | ((with_reducible refine gate_dst (N := 1) rfl ?_); refine box_event ?hg (N := 1) ?hd (cs := #[.int .i64 a0_0, .int .i64 a0_1]) (t := 53) ?hr ?_; (case hd => rfl); (case hg => rfl); (case hr => first | (go_simp; done) | (go_simp; rfl)); intro gb379 hg w3 hbox hb; have n0_ := Aside0.mk (below_step (by repeat (first | (with_reducible first | exact HB.out | apply below_alloc | apply pw_below_drewN | apply below_drew1) | exact HB.out)) hb); have n1_ := Aside0.mk (hbox); have n2_ := Aside0.mk ((by rw [hg]; exact (below_size (by repeat (first | (with_reducible first | exact HB.out | apply below_alloc | apply pw_below_drewN | apply below_drew1) | exact HB.out))) : w.heap.size ≤ gb379)); have n3_ := Aside0.mk ((by rw [hg]; exact (below_size (by repeat (first | (with_reducible first | exact HB.out | apply below_alloc | apply pw_below_drewN | apply below_drew1) | exact HB.out))) : w.heap.size ≤ gb379)); clear HB; have HB := n0_; have BK379 := n1_; have GW379 := n2_; have GE379 := n3_; clear n0_ n1_ n2_ n3_; clear hb hbox hg; have hcz4_0 : w3.cell? ⟨gb379, 0, none⟩ = some (.int .i64 a0_0) := (blk_cell BK379.out 0).trans rfl; have hcz4_1 : w3.cell? ⟨gb379, 1, none⟩ = some (.int .i64 a0_1) := (blk_cell BK379.out 1).trans rfl; have hfz4_0 := blk_frozen BK379.out 0; have hfz4_1 := blk_frozen BK379.out 1) | ((with_reducible refine gate_callee (f := 31) rfl ?_); refine goesL_ (some 4) rfl rfl Tryd.func31 (by kernel_rfl) rfl #[.agg #[.int .i64 a0_0, .int .i64 a0_1]] rfl (by (try simp only [List.map_toArray, List.map_cons, List.map_nil]); first | done | rfl | (simp only [List.length_drop, List.length_take]; rfl)) ?_; (with_reducible refine (impl_TblCol_ok.calls a0_0 a0_1 t380 _ A2.out).mono ?_); rintro e w5 ⟨rfl, hb⟩; refine ⟨_, rfl, ?_⟩; have n0_ := Aside0.mk (blk_below (g := gb379) (o := .cells #[.int .i64 a0_0, .int .i64 a0_1] 53 (0, 0)) (by (with_reducible repeat (first | refine blk_drewN ?_ _ | refine blk_drew ?_ | refine blk_alloc ?_ _)); exact BK379.out) hb); have n1_ := Aside0.mk (below_step (by repeat (first | (with_reducible first | exact HB.out | apply below_alloc | apply pw_below_drewN | apply below_drew1 | refine below_set ?_ GE379.out) | exact HB.out)) hb); clear BK379; clear HB; have BK379 := n0_; have HB := n1_; clear n0_ n1_; (try clear hb); (try clear hb2); (try clear hk); (try clear hi)))
  go_ret
  exact ⟨by first | rfl | (simp [errW_none, errW_some] <;> rfl) | (simp [*, errW_none, errW_some] <;> rfl), by repeat (first | (with_reducible first | exact HB.out | apply below_alloc | apply pw_below_drewN | apply below_drew1 | refine below_set ?_ GE379.out) | exact HB.out)⟩
end Go.Proofs.YtnalfnoebhmijaaDoor.Pr
