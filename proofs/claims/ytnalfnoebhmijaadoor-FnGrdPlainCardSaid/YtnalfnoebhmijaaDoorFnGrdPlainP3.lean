/- A part of what the claim of 'FnGrdPlain' leans on. -/
import Derived.Test.YtnalfnoebhmijaaDoorFnGrdPlainP0
import Derived.Test.YtnalfnoebhmijaaDoorFnGrdPlainShelf
import Derived.Test.YtnalfnoebhmijaaDoorFnGrdPlainQCut
import Derived.Test.YtnalfnoebhmijaaDoorFnGrdPlainP2
import Derived.Laws.EntriesVeiled
namespace Go.Proofs.YtnalfnoebhmijaaDoor.Pr
open Go.RowKit Go.Proofs.YtnalfnoebhmijaaDoorW.PrintWords Go.Proofs.YtnalfnoebhmijaaDoorW.PrintLast Go.Proofs.YtnalfnoebhmijaaDoorW.PrintMore
attribute [local go_sem] max2_int min2_int max_two min_two max_three min_three max_four min_four
set_option linter.unusedVariables false
set_option linter.unusedSimpArgs false
def strings_Split.f (a0 a1 : ByteArray) : Option (List ByteArray) := if a1.data.toList = [32] ∧ a0.size < 4294967281 then some (Pure.cutB a0) else none
theorem byte_one (a : ByteArray) (h : a.data.toList = [32]) : a = Pure.blank1 := by
  have : a.data = #[32] := by rw [← Array.toArray_toList (xs := a.data), h]
  cases a with | mk d => simp only at this; subst this; rfl
theorem cutB_length (s : ByteArray) : (Pure.cutB s).length = s.data.toList.count 32 + 1 := by rw [Pure.cutB, List.length_map, Pure.cutL_length]
set_option maxHeartbeats 2000000 in
theorem split_calls (s : ByteArray) (w : World) (hs : s.size < 4294967281) :
    Calls Tryd.prog 57 #[.string s, .string Pure.blank1] w fun e w' =>
      e = .returned (.slice (some ⟨w.heap.size, 0, none⟩) (Pure.cutB s).length (Pure.cutB s).length) ∧ w' = w.alloc (.cells ((Pure.cutB s).map Value.string).toArray 9) := by
  have hN : ((Pure.cutB s).length : Int) = min (if (-1 : Int) < 0 then (Go.Lib.countB s Pure.blank1 : Int) + 1 else -1) ((s.size : Int) + 1) := by
    have h1 := Go.Lib.countB_le Pure.blank1 (by decide) s.size s (Nat.le_refl _)
    rw [cutB_length, Pure.countB_blank] at *
    rw [if_pos (by decide)]; omega
  have hl : (Pure.cutB s).length - 1 = Go.Lib.countB s Pure.blank1 := by rw [cutB_length, Pure.countB_blank]; omega
  have c := Any.strings_genSplit_core { Tryd.lays146 with } (by kernel_rfl) s Pure.blank1 0 (-1) (Pure.cutB s).length w hs (by decide) (Nat.zero_le _)
    (fun x c hx => by have h := Any.strings_Index_one { Tryd.lays146 with } x 32 (w.alloc (.cells c (Tryd.lays146_ren.t 9))); rw [← Go.Lib.index_one] at h; exact h)
    (by have h := Any.strings_Count_one { Tryd.lays146 with } s 32 w; rw [show Go.Lib.countByte s.data.toList 32 = Go.Lib.countB s Pure.blank1 from (Go.Lib.count_one 32 _).symm] at h; exact h) (by decide) (by decide) hN
  rw [hl, Pure.splitB_cut, Go.Lib.cellsOf_full] at c
  have c2 : Calls Tryd.prog 66 #[.string s, .string Pure.blank1, .int .i64 0, .int .i64 (-1)] w fun e w' => e = .returned (.slice (some ⟨w.heap.size, 0, none⟩) (Pure.cutB s).length (Pure.cutB s).length) ∧ w' = w.alloc (.cells ((Pure.cutB s).map Value.string).toArray 9) := c
  have HC := Aside0.mk c2
  clear c c2 hN hl
  go_enter Tryd.func57, Tryd.ntmps57
  go_wp2_with (go_at_call 66; refine HC.out.mono ?_; rintro e w' ⟨rfl, hw⟩; rw [hw])
  go_ret
  exact ⟨rfl, rfl⟩
theorem strings_Split.calls (a0 a1 : ByteArray) (r : List ByteArray) (w : World) (h : strings_Split.f a0 a1 = some r) :
    Calls Tryd.prog 57 #[.string a0, .string a1] w fun e w' => ∃ v0_ : Value, e = .returned (v0_) ∧ Kd.R Kd.string 9 w' w.heap.size (fun _ => True) v0_ r ∧ Below w.heap.size w w' := by
  unfold strings_Split.f at h
  by_cases c : a1.data.toList = [32] ∧ a0.size < 4294967281
  case neg => rw [if_neg c] at h; cases h
  rw [if_pos c] at h
  obtain rfl := Option.some.inj h
  obtain rfl := byte_one a1 c.1
  refine (split_calls a0 w c.2).mono ?_
  rintro e w' ⟨rfl, rfl⟩
  have hm : (Pure.cutB a0).length ≤ maxLen := by
    have h1 := Go.Lib.countB_le Pure.blank1 (by decide) a0.size a0 (Nat.le_refl _)
    rw [Pure.countB_blank] at h1
    rw [cutB_length]; have := c.2; unfold maxLen; omega
  refine ⟨_, rfl, Kd.R_of_own ⟨by simp [encs], .inr ⟨w.heap.size, (Pure.cutB a0).length, ((Pure.cutB a0).map Value.string).toArray, rfl, Nat.le_refl _, blk_new w _, Nat.le_refl _, hm, by simp, ?_⟩⟩ (fun _ _ => trivial), below_alloc (Below.refl _ _) _⟩
  simp only [encs, Nat.mul_one]
  rw [List.take_of_length_le (by simp)]
end Go.Proofs.YtnalfnoebhmijaaDoor.Pr
namespace Go.Proofs.YtnalfnoebhmijaaDoor.Pr
open Go.RowKit Go.Proofs.YtnalfnoebhmijaaDoorW.PrintWords Go.Proofs.YtnalfnoebhmijaaDoorW.PrintLast Go.Proofs.YtnalfnoebhmijaaDoorW.PrintMore
attribute [local go_sem] max2_int min2_int max_two min_two max_three min_three max_four min_four
set_option linter.unusedVariables false
set_option linter.unusedSimpArgs false
def strings_Trim.f (a0 a1 : ByteArray) : Option ByteArray := if a1.data.toList = Pure.letters26 ∧ a0.size ≤ 9223372036854775807 then some ⟨(Go.Lib.trimS a0.data.toList Pure.letters26).toArray⟩ else none
theorem strings_Trim.calls (a0 a1 : ByteArray) (r : ByteArray) (w : World) (h : strings_Trim.f a0 a1 = some r) :
    Calls Tryd.prog 58 #[.string a0, .string a1] w fun e w' => e = .returned (.string r) ∧ Below w.heap.size w w' := by
  unfold strings_Trim.f at h
  by_cases c : a1.data.toList = Pure.letters26 ∧ a0.size ≤ 9223372036854775807
  case neg => rw [if_neg c] at h; cases h
  rw [if_pos c] at h
  obtain rfl := Option.some.inj h
  have e : a1 = ⟨Pure.letters26.toArray⟩ := by
    have : a1.data = Pure.letters26.toArray := by rw [← Array.toArray_toList (xs := a1.data), c.1]
    cases a1 with | mk d => simp only at this; subst this; rfl
  subst e
  exact Any.strings_Trim_laid Tryd.lays160 (by kernel_rfl) a0 ⟨Pure.letters26.toArray⟩ w c.2 (by decide) (ascii_of_all (by decide))
end Go.Proofs.YtnalfnoebhmijaaDoor.Pr
namespace Go.Proofs.YtnalfnoebhmijaaDoor.Pr
open Go.RowKit Go.Proofs.YtnalfnoebhmijaaDoorW.PrintWords Go.Proofs.YtnalfnoebhmijaaDoorW.PrintLast Go.Proofs.YtnalfnoebhmijaaDoorW.PrintMore
attribute [local go_sem] max2_int min2_int max_two min_two max_three min_three max_four min_four
set_option linter.unusedVariables false
set_option linter.unusedSimpArgs false
def impl_TxtOk.l0 : Nat → ByteArray → List ByteArray → Int → Int → Option (Bool)
  | 0, _, _, _, _ => none
  | k + 1, x0, x8, x9, x10 => if x10 < x9 then (if 0 ≤ x10 then (if x10 < (x8.length : Int) then (if (rdOf ByteArray.empty x8 x10).toList = ([] : List UInt8) then (some false) else ((strings_Trim.f (rdOf ByteArray.empty x8 x10) (⟨#[97, 98, 99, 100, 101, 102, 103, 104, 105, 106, 107, 108, 109, 110, 111, 112, 113, 114, 115, 116, 117, 118, 119, 120, 121, 122]⟩ : ByteArray)).bind fun t388 => (if t388.toList = ([] : List UInt8) then (impl_TxtOk.l0 k x0 x8 x9 (wrap64 (x10 + 1))) else (some false)))) else (none)) else (none)) else (some (decide ((x0.size : Int) ≤ 30)))
def impl_TxtOk.f (k : Nat) (a0 : ByteArray) : Option (Bool) := if a0.toList = ([] : List UInt8) then (some true) else ((strings_Split.f a0 (⟨#[32]⟩ : ByteArray)).bind fun t384 => (impl_TxtOk.l0 k a0 t384 (t384.length : Int) 0))
set_option maxHeartbeats 8000000 in
set_option maxRecDepth 100000 in
theorem impl_TxtOk.calls (k : Nat) (a0 : ByteArray) (r : Bool) (w : World) (h : impl_TxtOk.f k a0 = some r) :
  Calls Tryd.prog 37 #[.string a0] w fun e w' => e = .returned (.bool r) ∧ Below w.heap.size w w' := by
 have HB := Aside0.mk (Below.refl w.heap.size w);have H := h;unfold impl_TxtOk.f at H;clear h;by_cases c2 : a0.toList = ([] : List UInt8);(·rw [if_pos c2] at H;have aj : (a0.toList == ([] : List UInt8)) = true := beq_iff_eq.mpr c2;have ai : (a0.toList != ([] : List UInt8)) = false := bne_eq_false_iff_eq.mpr c2;clear c2;obtain rfl := Option.some.inj H;go_enter Tryd.func37, Tryd.ntmps37;go_wp2;go_ret;exact ⟨by first | rfl | (simp [errW_none, errW_some] <;> rfl) | (simp [*, errW_none, errW_some] <;> rfl), bl_ HB.out⟩)
 rw [if_neg c2] at H;have aj : (a0.toList == ([] : List UInt8)) = false := beq_eq_false_iff_ne.mpr c2;have ai : (a0.toList != ([] : List UInt8)) = true := bne_iff_ne.mpr c2;obtain ⟨t384, A3, H⟩ := ob_ H;(try dsimp only at H);have H' := Aside0.mk H;clear H;go_enter Tryd.func37, Tryd.ntmps37;(go_wp2_with (first | ((with_reducible refine gate_callee (f := 57) rfl ?_); refine gl_ (some 8) Tryd.func57 #[.string a0, .string (⟨#[32]⟩ : ByteArray)] ?_; (with_reducible refine (strings_Split.calls a0 (⟨#[32]⟩ : ByteArray) t384 _ A3.out).mono ?_); rintro e w4 ⟨v385, rfl, ho0, hb⟩; refine ⟨_, rfl, ?_⟩; have n0_ := Aside0.mk (Kd.R_lower ho0 (below_size (bl_ HB.out))); have n1_ := Aside0.mk (below_step (bl_ HB.out) hb); have ah := n0_; replace HB := n1_; clear n0_ n1_; (try clear hb hk hi); (try clear ho0); obtain ⟨Ao5, co5, eo5⟩ := Kd.R_slice ah.out; subst eo5)));go_loopg [10] k (fun kq v10 w' => ∃ (aa : Int), v10 = .int .i64 aa ∧ Aside0 (impl_TxtOk.l0 kq a0 t384 (t384.length : Int) aa = some r) ∧ Aside0 (kq ≤ k) ∧ Aside0 (Kd.R Kd.string 9 w' w.heap.size (fun _ => True) (.slice Ao5 t384.length co5) t384) ∧ Aside0 (Below w.heap.size w w'));(case atStart => exact ⟨(0), (by first | rfl | (simp; done) | (simp [*]; done)), H', ⟨Nat.le_refl _⟩, ⟨kr_ ah.out⟩, ⟨bl_ HB.out⟩⟩)
 case round =>
  clear H';(try clear c2);(try clear aj);(try clear ai);(try clear p2);(try clear c3);(try clear c5);obtain ⟨aa, rfl, HA, HK1, ad, HB⟩ := hrel
  cases gk with
   | zero => exact absurd HA.out (by simp [impl_TxtOk.l0])
   | succ k1 =>
    have H := HA.out;clear HA;simp only [impl_TxtOk.l0] at H;by_cases c6 : aa < (t384.length : Int)
    ·rw [if_pos c6] at H;have ap : decide (aa < (t384.length : Int)) = true := decide_eq_true c6;clear c6;by_cases c7 : 0 ≤ aa
     ·rw [if_pos c7] at H;have c7b0 : decide (0 ≤ aa) = true := decide_eq_true c7;clear c7;by_cases c8 : aa < (t384.length : Int)
      ·rw [if_pos c8] at H;have c8b0 : decide (aa < (t384.length : Int)) = true := decide_eq_true c8;clear c8;by_cases c9 : (rdOf ByteArray.empty t384 aa).toList = ([] : List UInt8);(·rw [if_pos c9] at H;have ao : ((rdOf ByteArray.empty t384 aa).toList == ([] : List UInt8)) = true := beq_iff_eq.mpr c9;have an : ((rdOf ByteArray.empty t384 aa).toList != ([] : List UInt8)) = false := bne_eq_false_iff_eq.mpr c9;clear c9;obtain rfl := Option.some.inj H;have ac : 0 ≤ (aa : Int) := dq_;have ab : aa < (t384.length : Int) := dq_;obtain ⟨ag, ae, af⟩ := Kd.at_string (Kd.R_reads' ad.out).2.2 aa ac ab;cases ae;replace ac := eq_true ac;replace ab := eq_true ab;go_wp2;go_ret;exact ⟨by first | rfl | (simp [errW_none, errW_some] <;> rfl) | (simp [*, errW_none, errW_some] <;> rfl), bl_ HB.out⟩)
       rw [if_neg c9] at H;have ao : ((rdOf ByteArray.empty t384 aa).toList == ([] : List UInt8)) = false := beq_eq_false_iff_ne.mpr c9;have an : ((rdOf ByteArray.empty t384 aa).toList != ([] : List UInt8)) = true := bne_iff_ne.mpr c9;obtain ⟨t388, A10, H⟩ := ob_ H;(try dsimp only at H);by_cases c11 : t388.toList = ([] : List UInt8);(·rw [if_pos c11] at H;have am : (t388.toList == ([] : List UInt8)) = true := beq_iff_eq.mpr c11;have al : (t388.toList != ([] : List UInt8)) = false := bne_eq_false_iff_eq.mpr c11;clear c11;have H' := Aside0.mk H;clear H;have ac : 0 ≤ (aa : Int) := dq_;have ab : aa < (t384.length : Int) := dq_;obtain ⟨ag, ae, af⟩ := Kd.at_string (Kd.R_reads' ad.out).2.2 aa ac ab;cases ae;replace ac := eq_true ac;replace ab := eq_true ab;(go_wp2_with (first | (go_at_call 58; (with_reducible refine (strings_Trim.calls (rdOf ByteArray.empty t384 aa) (⟨#[97, 98, 99, 100, 101, 102, 103, 104, 105, 106, 107, 108, 109, 110, 111, 112, 113, 114, 115, 116, 117, 118, 119, 120, 121, 122]⟩ : ByteArray) t388 _ A10.out).mono ?_); rintro e w12 ⟨rfl, hb⟩; have n0_ := Aside0.mk (Kd.R_below (kr_ ad.out) hb); have n1_ := Aside0.mk (below_step (bl_ HB.out) hb); replace ad := n0_; replace HB := n1_; clear n0_ n1_; (try clear hb hk hi))));go_roundg k1;(case measure => have := HK1.out; omega);(case rel => exact ⟨(wrap64 (aa + 1)), (by first | rfl | (simp; done) | (simp [*]; done)), H', ⟨by have := HK1.out; omega⟩, ⟨kr_ ad.out⟩, ⟨bl_ HB.out⟩⟩))
       rw [if_neg c11] at H;have am : (t388.toList == ([] : List UInt8)) = false := beq_eq_false_iff_ne.mpr c11;have al : (t388.toList != ([] : List UInt8)) = true := bne_iff_ne.mpr c11;obtain rfl := Option.some.inj H;have ac : 0 ≤ (aa : Int) := dq_;have ab : aa < (t384.length : Int) := dq_;obtain ⟨ag, ae, af⟩ := Kd.at_string (Kd.R_reads' ad.out).2.2 aa ac ab;cases ae;replace ac := eq_true ac;replace ab := eq_true ab;(go_wp2_with (first | (go_at_call 58; (with_reducible refine (strings_Trim.calls (rdOf ByteArray.empty t384 aa) (⟨#[97, 98, 99, 100, 101, 102, 103, 104, 105, 106, 107, 108, 109, 110, 111, 112, 113, 114, 115, 116, 117, 118, 119, 120, 121, 122]⟩ : ByteArray) t388 _ A10.out).mono ?_); rintro e w13 ⟨rfl, hb⟩; have n0_ := Aside0.mk (Kd.R_below (kr_ ad.out) hb); have n1_ := Aside0.mk (below_step (bl_ HB.out) hb); replace ad := n0_; replace HB := n1_; clear n0_ n1_; (try clear hb hk hi))));go_ret;exact ⟨by first | rfl | (simp [errW_none, errW_some] <;> rfl) | (simp [*, errW_none, errW_some] <;> rfl), bl_ HB.out⟩
      rw [if_neg c8] at H;exact absurd H (by simp)
     rw [if_neg c7] at H;exact absurd H (by simp)
    rw [if_neg c6] at H;have ap : decide (aa < (t384.length : Int)) = false := decide_eq_false c6;clear c6;obtain rfl := Option.some.inj H;go_wp2;go_ret;exact ⟨by first | rfl | (simp [errW_none, errW_some] <;> rfl) | (simp [*, errW_none, errW_some] <;> rfl), bl_ HB.out⟩
end Go.Proofs.YtnalfnoebhmijaaDoor.Pr
namespace Go.Proofs.YtnalfnoebhmijaaDoor.Pr
open Go.RowKit Go.Proofs.YtnalfnoebhmijaaDoorW.PrintWords Go.Proofs.YtnalfnoebhmijaaDoorW.PrintLast Go.Proofs.YtnalfnoebhmijaaDoorW.PrintMore
attribute [local go_sem] max2_int min2_int max_two min_two max_three min_three max_four min_four
set_option linter.unusedVariables false
set_option linter.unusedSimpArgs false
def impl_BrdLine_drawn.f (a0_0 : Int) (a0_1 : Int) : Option (Bool) := (impl_in.f a0_0 1 3).bind fun t390 => (some t390)
set_option maxHeartbeats 8000000 in
set_option maxRecDepth 100000 in
theorem impl_BrdLine_drawn.calls (a0_0 : Int) (a0_1 : Int) (r : Bool) (w : World) (h : impl_BrdLine_drawn.f a0_0 a0_1 = some r) :
    Calls Tryd.prog 65 #[.agg #[.int .i64 a0_0, .int .i64 a0_1]] w fun e w' => e = .returned (.bool r) ∧ Below w.heap.size w w' := by
  have hu59 := Tryd.underlying59
  have HB := Aside0.mk (Below.refl w.heap.size w)
  have H : ((impl_in.f a0_0 1 3).bind fun t390 => (some t390)) = some r := h
  clear h
  replace H := Option.bind_eq_some_iff.mp H
  obtain ⟨t390, A20, H⟩ := H
  replace H : (some t390) = some r := H
  have A2 := Aside0.mk A20
  clear A20
  obtain rfl := Option.some.inj H
  go_enter Tryd.func65, Tryd.ntmps65
  go_wp2_with (first | ((with_reducible refine gate_dst (N := 1) rfl ?_); refine box_event ?hg (N := 1) ?hd (cs := #[.int .i64 a0_0, .int .i64 a0_1]) (t := 59) ?hr ?_; (case hd => rfl); (case hg => rfl); (case hr => first | (go_simp; done) | (go_simp; rfl)); intro gb389 hg w3 hbox hb; have n0_ := Aside0.mk (below_step (by repeat (first | (with_reducible first | exact HB.out | apply below_alloc | apply pw_below_drewN | apply below_drew1) | exact HB.out)) hb); have n1_ := Aside0.mk (hbox); have n2_ := Aside0.mk ((by rw [hg]; exact (below_size (by repeat (first | (with_reducible first | exact HB.out | apply below_alloc | apply pw_below_drewN | apply below_drew1) | exact HB.out))) : w.heap.size ≤ gb389)); have n3_ := Aside0.mk ((by rw [hg]; exact (below_size (by repeat (first | (with_reducible first | exact HB.out | apply below_alloc | apply pw_below_drewN | apply below_drew1) | exact HB.out))) : w.heap.size ≤ gb389)); clear HB; have HB := n0_; have BK389 := n1_; have GW389 := n2_; have GE389 := n3_; clear n0_ n1_ n2_ n3_; clear hb hbox hg; have hcz4_0 : w3.cell? ⟨gb389, 0, none⟩ = some (.int .i64 a0_0) := (blk_cell BK389.out 0).trans rfl; have hcz4_1 : w3.cell? ⟨gb389, 1, none⟩ = some (.int .i64 a0_1) := (blk_cell BK389.out 1).trans rfl; have hfz4_0 := blk_frozen BK389.out 0; have hfz4_1 := blk_frozen BK389.out 1) | ((with_reducible refine gate_callee (f := 28) rfl ?_); refine goesL_ (some 5) rfl rfl Tryd.func28 (by kernel_rfl) rfl #[.int .i64 a0_0, .int .i64 1, .int .i64 3] rfl (by (try simp only [List.map_toArray, List.map_cons, List.map_nil]); first | done | rfl | (simp only [List.length_drop, List.length_take]; rfl)) ?_; (with_reducible refine (impl_in.calls a0_0 1 3 t390 _ A2.out).mono ?_); rintro e w' ⟨rfl, ⟨nd, rfl⟩⟩; refine ⟨_, rfl, ?_⟩))
  go_ret
  exact ⟨by first | rfl | (simp [errW_none, errW_some] <;> rfl) | (simp [*, errW_none, errW_some] <;> rfl), by repeat (first | (with_reducible first | exact HB.out | apply below_alloc | apply pw_below_drewN | apply below_drew1 | refine below_set ?_ GE389.out) | exact HB.out)⟩
end Go.Proofs.YtnalfnoebhmijaaDoor.Pr
namespace Go.Proofs.YtnalfnoebhmijaaDoor.Pr
open Go.RowKit Go.Proofs.YtnalfnoebhmijaaDoorW.PrintWords Go.Proofs.YtnalfnoebhmijaaDoorW.PrintLast Go.Proofs.YtnalfnoebhmijaaDoorW.PrintMore
attribute [local go_sem] max2_int min2_int max_two min_two max_three min_three max_four min_four
set_option linter.unusedVariables false
set_option linter.unusedSimpArgs false
def impl_BrdOk.f (a0_0 : Int) (a0_1 : Int) : Option (Bool) := (impl_BrdLine_drawn.f a0_0 a0_1).bind fun t392 => (if t392 = true then ((impl_in.f a0_1 1 3).bind fun t393 => (some t393)) else (if a0_0 = 0 then (some (a0_1 == 0)) else (if a0_0 = 4 then (some (a0_1 == 0)) else (some false))))
abbrev qa54 := @Aside0.mk
set_option maxHeartbeats 8000000 in
set_option maxRecDepth 100000 in
theorem impl_BrdOk.calls (a0_0 : Int) (a0_1 : Int) (r : Bool) (w : World) (h : impl_BrdOk.f a0_0 a0_1 = some r) :
  Calls Tryd.prog 54 #[.agg #[.int .i64 a0_0, .int .i64 a0_1]] w fun e w' => e = .returned (.bool r) ∧ Below w.heap.size w w' := by
 have hu59 := Tryd.underlying59;have HB := qa54 (Below.refl w.heap.size w);have H := h;unfold impl_BrdOk.f at H;clear h;obtain ⟨t392, A2, H⟩ := ob_ H;(try dsimp only at H);by_cases c3 : t392 = true
 (·subst c3;(have H1 : ((impl_in.f a0_1 1 3).bind fun t393 => (some t393)) = some r := by rw [if_pos rfl] at H; exact H);clear H;have H := H1;clear H1;obtain ⟨t393, A4, H⟩ := ob_ H;(try dsimp only at H);obtain rfl := Option.some.inj H;go_enter Tryd.func54, Tryd.ntmps54;(go_wp2_with (first | ((with_reducible refine gate_dst (N := 1) rfl ?_); refine bx_ 1 #[.int .i64 a0_0, .int .i64 a0_1] 59 ?_; intro ab hg w5 hbox hb; have n0_ := qa54 (below_step (bl_ HB.out) hb); have n1_ := qa54 (hbox); have n2_ := qa54 ((sz_ (below_size (bl_ HB.out)) hg : w.heap.size ≤ ab)); have n3_ := qa54 n2_.out; replace HB := n0_; have aa := n1_; have ad := n2_; have ac := n3_; clear n0_ n1_ n2_ n3_; clear hb hbox hg; have aL := c2_ aa.out) | ((with_reducible refine gate_callee (f := 65) rfl ?_); refine gl_ (some 4) Tryd.func65 #[.agg #[.int .i64 a0_0, .int .i64 a0_1]] ?_; (with_reducible refine (impl_BrdLine_drawn.calls a0_0 a0_1 true _ A2.out).mono ?_); rintro e w7 ⟨rfl, hb⟩; refine ⟨_, rfl, ?_⟩; have n0_ := qa54 (blk_below (g := ab) (kb_ aa.out) hb); have n1_ := qa54 (below_step (bl_ HB.out) hb); replace aa := n0_; replace HB := n1_; clear n0_ n1_; (try clear hb hk hi); have aO := c2_ aa.out) | ((with_reducible refine gate_callee (f := 28) rfl ?_); refine gl_ (some 7) Tryd.func28 #[.int .i64 a0_1, .int .i64 1, .int .i64 3] ?_; (with_reducible refine (impl_in.calls a0_1 1 3 t393 _ A4.out).mono ?_); rintro e w' ⟨rfl, ⟨nd, rfl⟩⟩; refine ⟨_, rfl, ?_⟩)));go_ret;exact ⟨by first | rfl | (simp [errW_none, errW_some] <;> rfl) | (simp [*, errW_none, errW_some] <;> rfl), bl_ HB.out⟩)
 replace c3 := Bool.eq_false_iff.mpr c3;subst c3;(have H1 : (if a0_0 = 0 then (some (a0_1 == 0)) else (if a0_0 = 4 then (some (a0_1 == 0)) else (some false))) = some r := by rw [if_neg (show ¬ (false = true) by decide)] at H; exact H);clear H;have H := H1;clear H1;by_cases c9 : a0_0 = 0;(·rw [if_pos c9] at H;have ah : (a0_0 == 0) = true := beq_iff_eq.mpr c9;have ag : (a0_0 != 0) = false := bne_eq_false_iff_eq.mpr c9;clear c9;obtain rfl := Option.some.inj H;go_enter Tryd.func54, Tryd.ntmps54;(go_wp2_with (first | ((with_reducible refine gate_dst (N := 1) rfl ?_); refine bx_ 1 #[.int .i64 a0_0, .int .i64 a0_1] 59 ?_; intro ab hg w10 hbox hb; have n0_ := qa54 (below_step (bl_ HB.out) hb); have n1_ := qa54 (hbox); have n2_ := qa54 ((sz_ (below_size (bl_ HB.out)) hg : w.heap.size ≤ ab)); have n3_ := qa54 n2_.out; replace HB := n0_; have aa := n1_; have ad := n2_; have ac := n3_; clear n0_ n1_ n2_ n3_; clear hb hbox hg; have ap := c2_ aa.out) | ((with_reducible refine gate_callee (f := 65) rfl ?_); refine gl_ (some 4) Tryd.func65 #[.agg #[.int .i64 a0_0, .int .i64 a0_1]] ?_; (with_reducible refine (impl_BrdLine_drawn.calls a0_0 a0_1 false _ A2.out).mono ?_); rintro e w12 ⟨rfl, hb⟩; refine ⟨_, rfl, ?_⟩; have n0_ := qa54 (blk_below (g := ab) (kb_ aa.out) hb); have n1_ := qa54 (below_step (bl_ HB.out) hb); replace aa := n0_; replace HB := n1_; clear n0_ n1_; (try clear hb hk hi); have ay := c2_ aa.out)));go_ret;exact ⟨by first | rfl | (simp [errW_none, errW_some] <;> rfl) | (simp [*, errW_none, errW_some] <;> rfl), bl_ HB.out⟩)
 rw [if_neg c9] at H;have ah : (a0_0 == 0) = false := beq_eq_false_iff_ne.mpr c9;have ag : (a0_0 != 0) = true := bne_iff_ne.mpr c9;by_cases c14 : a0_0 = 4;(·rw [if_pos c14] at H;have af : (a0_0 == 4) = true := beq_iff_eq.mpr c14;have ae : (a0_0 != 4) = false := bne_eq_false_iff_eq.mpr c14;clear c14;obtain rfl := Option.some.inj H;go_enter Tryd.func54, Tryd.ntmps54;(go_wp2_with (first | ((with_reducible refine gate_dst (N := 1) rfl ?_); refine bx_ 1 #[.int .i64 a0_0, .int .i64 a0_1] 59 ?_; intro ab hg w15 hbox hb; have n0_ := qa54 (below_step (bl_ HB.out) hb); have n1_ := qa54 (hbox); have n2_ := qa54 ((sz_ (below_size (bl_ HB.out)) hg : w.heap.size ≤ ab)); have n3_ := qa54 n2_.out; replace HB := n0_; have aa := n1_; have ad := n2_; have ac := n3_; clear n0_ n1_ n2_ n3_; clear hb hbox hg; have aD := c2_ aa.out) | ((with_reducible refine gate_callee (f := 65) rfl ?_); refine gl_ (some 4) Tryd.func65 #[.agg #[.int .i64 a0_0, .int .i64 a0_1]] ?_; (with_reducible refine (impl_BrdLine_drawn.calls a0_0 a0_1 false _ A2.out).mono ?_); rintro e w17 ⟨rfl, hb⟩; refine ⟨_, rfl, ?_⟩; have n0_ := qa54 (blk_below (g := ab) (kb_ aa.out) hb); have n1_ := qa54 (below_step (bl_ HB.out) hb); replace aa := n0_; replace HB := n1_; clear n0_ n1_; (try clear hb hk hi); have al := c2_ aa.out)));go_ret;exact ⟨by first | rfl | (simp [errW_none, errW_some] <;> rfl) | (simp [*, errW_none, errW_some] <;> rfl), bl_ HB.out⟩)
 rw [if_neg c14] at H;have af : (a0_0 == 4) = false := beq_eq_false_iff_ne.mpr c14;have ae : (a0_0 != 4) = true := bne_iff_ne.mpr c14;obtain rfl := Option.some.inj H;go_enter Tryd.func54, Tryd.ntmps54;(go_wp2_with (first | ((with_reducible refine gate_dst (N := 1) rfl ?_); refine bx_ 1 #[.int .i64 a0_0, .int .i64 a0_1] 59 ?_; intro ab hg w19 hbox hb; have n0_ := qa54 (below_step (bl_ HB.out) hb); have n1_ := qa54 (hbox); have n2_ := qa54 ((sz_ (below_size (bl_ HB.out)) hg : w.heap.size ≤ ab)); have n3_ := qa54 n2_.out; replace HB := n0_; have aa := n1_; have ad := n2_; have ac := n3_; clear n0_ n1_ n2_ n3_; clear hb hbox hg; have aw := c2_ aa.out) | ((with_reducible refine gate_callee (f := 65) rfl ?_); refine gl_ (some 4) Tryd.func65 #[.agg #[.int .i64 a0_0, .int .i64 a0_1]] ?_; (with_reducible refine (impl_BrdLine_drawn.calls a0_0 a0_1 false _ A2.out).mono ?_); rintro e w21 ⟨rfl, hb⟩; refine ⟨_, rfl, ?_⟩; have n0_ := qa54 (blk_below (g := ab) (kb_ aa.out) hb); have n1_ := qa54 (below_step (bl_ HB.out) hb); replace aa := n0_; replace HB := n1_; clear n0_ n1_; (try clear hb hk hi); have av := c2_ aa.out)));go_ret;exact ⟨by first | rfl | (simp [errW_none, errW_some] <;> rfl) | (simp [*, errW_none, errW_some] <;> rfl), bl_ HB.out⟩
end Go.Proofs.YtnalfnoebhmijaaDoor.Pr
namespace Go.Proofs.YtnalfnoebhmijaaDoor.Pr
open Go.RowKit Go.Proofs.YtnalfnoebhmijaaDoorW.PrintWords Go.Proofs.YtnalfnoebhmijaaDoorW.PrintLast Go.Proofs.YtnalfnoebhmijaaDoorW.PrintMore
attribute [local go_sem] max2_int min2_int max_two min_two max_three min_three max_four min_four
set_option linter.unusedVariables false
set_option linter.unusedSimpArgs false
def impl_CellOk.f (k : Nat) (a0_0 : ByteArray) (a0_1 : Int) (a0_2 : Int) (a0_3 : Int) (a0_4 : Int) (a0_5 : Int) (a0_6 : Int) (a0_7 : Int) (a0_8 : Int) (a0_9 : Int) (a0_10 : Int) : Option (Bool) := (impl_TxtOk.f k a0_0).bind fun t395 => (if t395 = true then ((impl_in.f a0_1 1 4).bind fun t396 => (if t396 = true then ((impl_in.f a0_2 1 4).bind fun t397 => (if t397 = true then ((impl_BrdOk.f a0_3 a0_4).bind fun t398 => (if t398 = true then ((impl_BrdOk.f a0_5 a0_6).bind fun t399 => (if t399 = true then ((impl_BrdOk.f a0_7 a0_8).bind fun t400 => (if t400 = true then ((impl_BrdOk.f a0_9 a0_10).bind fun t401 => (some t401)) else (some false))) else (some false))) else (some false))) else (some false))) else (some false))) else (some false))
abbrev qb33 := @Aside0.mk
abbrev qf33 := @below_step
set_option maxHeartbeats 8000000 in
set_option maxRecDepth 100000 in
theorem impl_CellOk.calls (k : Nat) (a0_0 : ByteArray) (a0_1 : Int) (a0_2 : Int) (a0_3 : Int) (a0_4 : Int) (a0_5 : Int) (a0_6 : Int) (a0_7 : Int) (a0_8 : Int) (a0_9 : Int) (a0_10 : Int) (r : Bool) (w : World) (h : impl_CellOk.f k a0_0 a0_1 a0_2 a0_3 a0_4 a0_5 a0_6 a0_7 a0_8 a0_9 a0_10 = some r) :
  Calls Tryd.prog 33 #[.agg #[.string a0_0, .int .i64 a0_1, .int .i64 a0_2, .int .i64 a0_3, .int .i64 a0_4, .int .i64 a0_5, .int .i64 a0_6, .int .i64 a0_7, .int .i64 a0_8, .int .i64 a0_9, .int .i64 a0_10]] w fun e w' => e = .returned (.bool r) ∧ Below w.heap.size w w' := by
 have hu61 := Tryd.underlying61;have hu59 := Tryd.underlying59;have HB := qb33 (Below.refl w.heap.size w);have H := h;unfold impl_CellOk.f at H;clear h;obtain ⟨t395, A2, H⟩ := ob_ H;(try dsimp only at H);by_cases c3 : t395 = true
 ·subst c3;(have H1 : ((impl_in.f a0_1 1 4).bind fun t396 => (if t396 = true then ((impl_in.f a0_2 1 4).bind fun t397 => (if t397 = true then ((impl_BrdOk.f a0_3 a0_4).bind fun t398 => (if t398 = true then ((impl_BrdOk.f a0_5 a0_6).bind fun t399 => (if t399 = true then ((impl_BrdOk.f a0_7 a0_8).bind fun t400 => (if t400 = true then ((impl_BrdOk.f a0_9 a0_10).bind fun t401 => (some t401)) else (some false))) else (some false))) else (some false))) else (some false))) else (some false))) = some r := by rw [if_pos rfl] at H; exact H);clear H;have H := H1;clear H1;obtain ⟨t396, A4, H⟩ := ob_ H;(try dsimp only at H);by_cases c5 : t396 = true
  ·subst c5;(have H1 : ((impl_in.f a0_2 1 4).bind fun t397 => (if t397 = true then ((impl_BrdOk.f a0_3 a0_4).bind fun t398 => (if t398 = true then ((impl_BrdOk.f a0_5 a0_6).bind fun t399 => (if t399 = true then ((impl_BrdOk.f a0_7 a0_8).bind fun t400 => (if t400 = true then ((impl_BrdOk.f a0_9 a0_10).bind fun t401 => (some t401)) else (some false))) else (some false))) else (some false))) else (some false))) = some r := by rw [if_pos rfl] at H; exact H);clear H;have H := H1;clear H1;obtain ⟨t397, A6, H⟩ := ob_ H;(try dsimp only at H);by_cases c7 : t397 = true
   ·subst c7;(have H1 : ((impl_BrdOk.f a0_3 a0_4).bind fun t398 => (if t398 = true then ((impl_BrdOk.f a0_5 a0_6).bind fun t399 => (if t399 = true then ((impl_BrdOk.f a0_7 a0_8).bind fun t400 => (if t400 = true then ((impl_BrdOk.f a0_9 a0_10).bind fun t401 => (some t401)) else (some false))) else (some false))) else (some false))) = some r := by rw [if_pos rfl] at H; exact H);clear H;have H := H1;clear H1;obtain ⟨t398, A8, H⟩ := ob_ H;(try dsimp only at H);by_cases c9 : t398 = true
    ·subst c9;(have H1 : ((impl_BrdOk.f a0_5 a0_6).bind fun t399 => (if t399 = true then ((impl_BrdOk.f a0_7 a0_8).bind fun t400 => (if t400 = true then ((impl_BrdOk.f a0_9 a0_10).bind fun t401 => (some t401)) else (some false))) else (some false))) = some r := by rw [if_pos rfl] at H; exact H);clear H;have H := H1;clear H1;obtain ⟨t399, A10, H⟩ := ob_ H;(try dsimp only at H);by_cases c11 : t399 = true
     ·subst c11;(have H1 : ((impl_BrdOk.f a0_7 a0_8).bind fun t400 => (if t400 = true then ((impl_BrdOk.f a0_9 a0_10).bind fun t401 => (some t401)) else (some false))) = some r := by rw [if_pos rfl] at H; exact H);clear H;have H := H1;clear H1;obtain ⟨t400, A12, H⟩ := ob_ H;(try dsimp only at H);by_cases c13 : t400 = true
      ·subst c13;(have H1 : ((impl_BrdOk.f a0_9 a0_10).bind fun t401 => (some t401)) = some r := by rw [if_pos rfl] at H; exact H);clear H;have H := H1;clear H1;obtain ⟨t401, A14, H⟩ := ob_ H;(try dsimp only at H);obtain rfl := Option.some.inj H;go_enter Tryd.func33, Tryd.ntmps33
       go_wp2_with (first | ((with_reducible refine gate_dst (N := 1) rfl ?_); refine bx_ 1 #[.string a0_0, .int .i64 a0_1, .int .i64 a0_2, .int .i64 a0_3, .int .i64 a0_4, .int .i64 a0_5, .int .i64 a0_6, .int .i64 a0_7, .int .i64 a0_8, .int .i64 a0_9, .int .i64 a0_10] 61 ?_; intro ab hg w15 hbox hb; have n0_ := qb33 (qf33 (bl_ HB.out) hb); have n1_ := qb33 (hbox); have n2_ := qb33 ((sz_ (below_size (bl_ HB.out)) hg : w.heap.size ≤ ab)); have n3_ := qb33 n2_.out; replace HB := n0_; have aa := n1_; have ad := n2_; have ac := n3_; clear n0_ n1_ n2_ n3_; clear hb hbox hg; have d1 := c11_ aa.out) | ((with_reducible refine gate_callee (f := 37) rfl ?_); refine gl_ (some 5) Tryd.func37 #[.string a0_0] ?_; (with_reducible refine (impl_TxtOk.calls k a0_0 true _ A2.out).mono ?_); rintro e w17 ⟨rfl, hb⟩; refine ⟨_, rfl, ?_⟩; have n0_ := qb33 (blk_below (g := ab) (kb_ aa.out) hb); have n1_ := qb33 (qf33 (bl_ HB.out) hb); replace aa := n0_; replace HB := n1_; clear n0_ n1_; (try clear hb hk hi); have bQ := c11_ aa.out) | (go_at_call 28; (with_reducible refine (impl_in.calls a0_1 1 4 true _ A4.out).mono ?_); rintro e w' ⟨rfl, ⟨nd, rfl⟩⟩) | (go_at_call 28; (with_reducible refine (impl_in.calls a0_2 1 4 true _ A6.out).mono ?_); rintro e w' ⟨rfl, ⟨nd, rfl⟩⟩) | (go_at_call 54; (with_reducible refine (impl_BrdOk.calls a0_3 a0_4 true _ A8.out).mono ?_); rintro e w19 ⟨rfl, hb⟩; have n0_ := qb33 (blk_below (g := ab) (kb_ aa.out) hb); have n1_ := qb33 (qf33 (bl_ HB.out) hb); replace aa := n0_; replace HB := n1_; clear n0_ n1_; (try clear hb hk hi); have bp := c11_ aa.out) | (go_at_call 54; (with_reducible refine (impl_BrdOk.calls a0_5 a0_6 true _ A10.out).mono ?_); rintro e w21 ⟨rfl, hb⟩; have n0_ := qb33 (blk_below (g := ab) (kb_ aa.out) hb); have n1_ := qb33 (qf33 (bl_ HB.out) hb); replace aa := n0_; replace HB := n1_; clear n0_ n1_; (try clear hb hk hi); have g2 := c11_ aa.out) | (go_at_call 54; (with_reducible refine (impl_BrdOk.calls a0_7 a0_8 true _ A12.out).mono ?_); rintro e w23 ⟨rfl, hb⟩; have n0_ := qb33 (blk_below (g := ab) (kb_ aa.out) hb); have n1_ := qb33 (qf33 (bl_ HB.out) hb); replace aa := n0_; replace HB := n1_; clear n0_ n1_; (try clear hb hk hi); have ea := c11_ aa.out) | (go_at_call 54; (with_reducible refine (impl_BrdOk.calls a0_9 a0_10 t401 _ A14.out).mono ?_); rintro e w25 ⟨rfl, hb⟩; have n0_ := qb33 (blk_below (g := ab) (kb_ aa.out) hb); have n1_ := qb33 (qf33 (bl_ HB.out) hb); replace aa := n0_; replace HB := n1_; clear n0_ n1_; (try clear hb hk hi)))
       go_ret;exact ⟨rg_, bl_ HB.out⟩
      replace c13 := Bool.eq_false_iff.mpr c13;subst c13;(have H1 : (some false) = some r := by rw [if_neg (show ¬ (false = true) by decide)] at H; exact H);clear H;have H := H1;clear H1;obtain rfl := Option.some.inj H;go_enter Tryd.func33, Tryd.ntmps33
      go_wp2_with (first | ((with_reducible refine gate_dst (N := 1) rfl ?_); refine bx_ 1 #[.string a0_0, .int .i64 a0_1, .int .i64 a0_2, .int .i64 a0_3, .int .i64 a0_4, .int .i64 a0_5, .int .i64 a0_6, .int .i64 a0_7, .int .i64 a0_8, .int .i64 a0_9, .int .i64 a0_10] 61 ?_; intro ab hg w26 hbox hb; have n0_ := qb33 (qf33 (bl_ HB.out) hb); have n1_ := qb33 (hbox); have n2_ := qb33 ((sz_ (below_size (bl_ HB.out)) hg : w.heap.size ≤ ab)); have n3_ := qb33 n2_.out; replace HB := n0_; have aa := n1_; have ad := n2_; have ac := n3_; clear n0_ n1_ n2_ n3_; clear hb hbox hg; have aV := c11_ aa.out) | ((with_reducible refine gate_callee (f := 37) rfl ?_); refine gl_ (some 5) Tryd.func37 #[.string a0_0] ?_; (with_reducible refine (impl_TxtOk.calls k a0_0 true _ A2.out).mono ?_); rintro e w28 ⟨rfl, hb⟩; refine ⟨_, rfl, ?_⟩; have n0_ := qb33 (blk_below (g := ab) (kb_ aa.out) hb); have n1_ := qb33 (qf33 (bl_ HB.out) hb); replace aa := n0_; replace HB := n1_; clear n0_ n1_; (try clear hb hk hi); have bT := c11_ aa.out) | (go_at_call 28; (with_reducible refine (impl_in.calls a0_1 1 4 true _ A4.out).mono ?_); rintro e w' ⟨rfl, ⟨nd, rfl⟩⟩) | (go_at_call 28; (with_reducible refine (impl_in.calls a0_2 1 4 true _ A6.out).mono ?_); rintro e w' ⟨rfl, ⟨nd, rfl⟩⟩) | (go_at_call 54; (with_reducible refine (impl_BrdOk.calls a0_3 a0_4 true _ A8.out).mono ?_); rintro e w30 ⟨rfl, hb⟩; have n0_ := qb33 (blk_below (g := ab) (kb_ aa.out) hb); have n1_ := qb33 (qf33 (bl_ HB.out) hb); replace aa := n0_; replace HB := n1_; clear n0_ n1_; (try clear hb hk hi); have dE := c11_ aa.out) | (go_at_call 54; (with_reducible refine (impl_BrdOk.calls a0_5 a0_6 true _ A10.out).mono ?_); rintro e w32 ⟨rfl, hb⟩; have n0_ := qb33 (blk_below (g := ab) (kb_ aa.out) hb); have n1_ := qb33 (qf33 (bl_ HB.out) hb); replace aa := n0_; replace HB := n1_; clear n0_ n1_; (try clear hb hk hi); have f4 := c11_ aa.out) | (go_at_call 54; (with_reducible refine (impl_BrdOk.calls a0_7 a0_8 false _ A12.out).mono ?_); rintro e w34 ⟨rfl, hb⟩; have n0_ := qb33 (blk_below (g := ab) (kb_ aa.out) hb); have n1_ := qb33 (qf33 (bl_ HB.out) hb); replace aa := n0_; replace HB := n1_; clear n0_ n1_; (try clear hb hk hi)))
      go_ret;exact ⟨rg_, bl_ HB.out⟩
     replace c11 := Bool.eq_false_iff.mpr c11;subst c11;(have H1 : (some false) = some r := by rw [if_neg (show ¬ (false = true) by decide)] at H; exact H);clear H;have H := H1;clear H1;obtain rfl := Option.some.inj H;go_enter Tryd.func33, Tryd.ntmps33
     go_wp2_with (first | ((with_reducible refine gate_dst (N := 1) rfl ?_); refine bx_ 1 #[.string a0_0, .int .i64 a0_1, .int .i64 a0_2, .int .i64 a0_3, .int .i64 a0_4, .int .i64 a0_5, .int .i64 a0_6, .int .i64 a0_7, .int .i64 a0_8, .int .i64 a0_9, .int .i64 a0_10] 61 ?_; intro ab hg w35 hbox hb; have n0_ := qb33 (qf33 (bl_ HB.out) hb); have n1_ := qb33 (hbox); have n2_ := qb33 ((sz_ (below_size (bl_ HB.out)) hg : w.heap.size ≤ ab)); have n3_ := qb33 n2_.out; replace HB := n0_; have aa := n1_; have ad := n2_; have ac := n3_; clear n0_ n1_ n2_ n3_; clear hb hbox hg; have aZ := c11_ aa.out) | ((with_reducible refine gate_callee (f := 37) rfl ?_); refine gl_ (some 5) Tryd.func37 #[.string a0_0] ?_; (with_reducible refine (impl_TxtOk.calls k a0_0 true _ A2.out).mono ?_); rintro e w37 ⟨rfl, hb⟩; refine ⟨_, rfl, ?_⟩; have n0_ := qb33 (blk_below (g := ab) (kb_ aa.out) hb); have n1_ := qb33 (qf33 (bl_ HB.out) hb); replace aa := n0_; replace HB := n1_; clear n0_ n1_; (try clear hb hk hi); have f9 := c11_ aa.out) | (go_at_call 28; (with_reducible refine (impl_in.calls a0_1 1 4 true _ A4.out).mono ?_); rintro e w' ⟨rfl, ⟨nd, rfl⟩⟩) | (go_at_call 28; (with_reducible refine (impl_in.calls a0_2 1 4 true _ A6.out).mono ?_); rintro e w' ⟨rfl, ⟨nd, rfl⟩⟩) | (go_at_call 54; (with_reducible refine (impl_BrdOk.calls a0_3 a0_4 true _ A8.out).mono ?_); rintro e w39 ⟨rfl, hb⟩; have n0_ := qb33 (blk_below (g := ab) (kb_ aa.out) hb); have n1_ := qb33 (qf33 (bl_ HB.out) hb); replace aa := n0_; replace HB := n1_; clear n0_ n1_; (try clear hb hk hi); have dP := c11_ aa.out) | (go_at_call 54; (with_reducible refine (impl_BrdOk.calls a0_5 a0_6 false _ A10.out).mono ?_); rintro e w41 ⟨rfl, hb⟩; have n0_ := qb33 (blk_below (g := ab) (kb_ aa.out) hb); have n1_ := qb33 (qf33 (bl_ HB.out) hb); replace aa := n0_; replace HB := n1_; clear n0_ n1_; (try clear hb hk hi)))
     go_ret;exact ⟨rg_, bl_ HB.out⟩
    replace c9 := Bool.eq_false_iff.mpr c9;subst c9;(have H1 : (some false) = some r := by rw [if_neg (show ¬ (false = true) by decide)] at H; exact H);clear H;have H := H1;clear H1;obtain rfl := Option.some.inj H;go_enter Tryd.func33, Tryd.ntmps33
    go_wp2_with (first | ((with_reducible refine gate_dst (N := 1) rfl ?_); refine bx_ 1 #[.string a0_0, .int .i64 a0_1, .int .i64 a0_2, .int .i64 a0_3, .int .i64 a0_4, .int .i64 a0_5, .int .i64 a0_6, .int .i64 a0_7, .int .i64 a0_8, .int .i64 a0_9, .int .i64 a0_10] 61 ?_; intro ab hg w42 hbox hb; have n0_ := qb33 (qf33 (bl_ HB.out) hb); have n1_ := qb33 (hbox); have n2_ := qb33 ((sz_ (below_size (bl_ HB.out)) hg : w.heap.size ≤ ab)); have n3_ := qb33 n2_.out; replace HB := n0_; have aa := n1_; have ad := n2_; have ac := n3_; clear n0_ n1_ n2_ n3_; clear hb hbox hg; have dY := c11_ aa.out) | ((with_reducible refine gate_callee (f := 37) rfl ?_); refine gl_ (some 5) Tryd.func37 #[.string a0_0] ?_; (with_reducible refine (impl_TxtOk.calls k a0_0 true _ A2.out).mono ?_); rintro e w44 ⟨rfl, hb⟩; refine ⟨_, rfl, ?_⟩; have n0_ := qb33 (blk_below (g := ab) (kb_ aa.out) hb); have n1_ := qb33 (qf33 (bl_ HB.out) hb); replace aa := n0_; replace HB := n1_; clear n0_ n1_; (try clear hb hk hi); have eF := c11_ aa.out) | (go_at_call 28; (with_reducible refine (impl_in.calls a0_1 1 4 true _ A4.out).mono ?_); rintro e w' ⟨rfl, ⟨nd, rfl⟩⟩) | (go_at_call 28; (with_reducible refine (impl_in.calls a0_2 1 4 true _ A6.out).mono ?_); rintro e w' ⟨rfl, ⟨nd, rfl⟩⟩) | (go_at_call 54; (with_reducible refine (impl_BrdOk.calls a0_3 a0_4 false _ A8.out).mono ?_); rintro e w46 ⟨rfl, hb⟩; have n0_ := qb33 (blk_below (g := ab) (kb_ aa.out) hb); have n1_ := qb33 (qf33 (bl_ HB.out) hb); replace aa := n0_; replace HB := n1_; clear n0_ n1_; (try clear hb hk hi)))
    go_ret;exact ⟨rg_, bl_ HB.out⟩
   replace c7 := Bool.eq_false_iff.mpr c7;subst c7;(have H1 : (some false) = some r := by rw [if_neg (show ¬ (false = true) by decide)] at H; exact H);clear H;have H := H1;clear H1;obtain rfl := Option.some.inj H;go_enter Tryd.func33, Tryd.ntmps33
   go_wp2_with (first | ((with_reducible refine gate_dst (N := 1) rfl ?_); refine bx_ 1 #[.string a0_0, .int .i64 a0_1, .int .i64 a0_2, .int .i64 a0_3, .int .i64 a0_4, .int .i64 a0_5, .int .i64 a0_6, .int .i64 a0_7, .int .i64 a0_8, .int .i64 a0_9, .int .i64 a0_10] 61 ?_; intro ab hg w47 hbox hb; have n0_ := qb33 (qf33 (bl_ HB.out) hb); have n1_ := qb33 (hbox); have n2_ := qb33 ((sz_ (below_size (bl_ HB.out)) hg : w.heap.size ≤ ab)); have n3_ := qb33 n2_.out; replace HB := n0_; have aa := n1_; have ad := n2_; have ac := n3_; clear n0_ n1_ n2_ n3_; clear hb hbox hg; have aW := c11_ aa.out) | ((with_reducible refine gate_callee (f := 37) rfl ?_); refine gl_ (some 5) Tryd.func37 #[.string a0_0] ?_; (with_reducible refine (impl_TxtOk.calls k a0_0 true _ A2.out).mono ?_); rintro e w49 ⟨rfl, hb⟩; refine ⟨_, rfl, ?_⟩; have n0_ := qb33 (blk_below (g := ab) (kb_ aa.out) hb); have n1_ := qb33 (qf33 (bl_ HB.out) hb); replace aa := n0_; replace HB := n1_; clear n0_ n1_; (try clear hb hk hi); have bU := c11_ aa.out) | (go_at_call 28; (with_reducible refine (impl_in.calls a0_1 1 4 true _ A4.out).mono ?_); rintro e w' ⟨rfl, ⟨nd, rfl⟩⟩) | (go_at_call 28; (with_reducible refine (impl_in.calls a0_2 1 4 false _ A6.out).mono ?_); rintro e w' ⟨rfl, ⟨nd, rfl⟩⟩))
   go_ret;exact ⟨rg_, bl_ HB.out⟩
  replace c5 := Bool.eq_false_iff.mpr c5;subst c5;(have H1 : (some false) = some r := by rw [if_neg (show ¬ (false = true) by decide)] at H; exact H);clear H;have H := H1;clear H1;obtain rfl := Option.some.inj H;go_enter Tryd.func33, Tryd.ntmps33
  go_wp2_with (first | ((with_reducible refine gate_dst (N := 1) rfl ?_); refine bx_ 1 #[.string a0_0, .int .i64 a0_1, .int .i64 a0_2, .int .i64 a0_3, .int .i64 a0_4, .int .i64 a0_5, .int .i64 a0_6, .int .i64 a0_7, .int .i64 a0_8, .int .i64 a0_9, .int .i64 a0_10] 61 ?_; intro ab hg w51 hbox hb; have n0_ := qb33 (qf33 (bl_ HB.out) hb); have n1_ := qb33 (hbox); have n2_ := qb33 ((sz_ (below_size (bl_ HB.out)) hg : w.heap.size ≤ ab)); have n3_ := qb33 n2_.out; replace HB := n0_; have aa := n1_; have ad := n2_; have ac := n3_; clear n0_ n1_ n2_ n3_; clear hb hbox hg; have g7 := c11_ aa.out) | ((with_reducible refine gate_callee (f := 37) rfl ?_); refine gl_ (some 5) Tryd.func37 #[.string a0_0] ?_; (with_reducible refine (impl_TxtOk.calls k a0_0 true _ A2.out).mono ?_); rintro e w53 ⟨rfl, hb⟩; refine ⟨_, rfl, ?_⟩; have n0_ := qb33 (blk_below (g := ab) (kb_ aa.out) hb); have n1_ := qb33 (qf33 (bl_ HB.out) hb); replace aa := n0_; replace HB := n1_; clear n0_ n1_; (try clear hb hk hi); have cg := c11_ aa.out) | (go_at_call 28; (with_reducible refine (impl_in.calls a0_1 1 4 false _ A4.out).mono ?_); rintro e w' ⟨rfl, ⟨nd, rfl⟩⟩))
  go_ret;exact ⟨rg_, bl_ HB.out⟩
 replace c3 := Bool.eq_false_iff.mpr c3;subst c3;(have H1 : (some false) = some r := by rw [if_neg (show ¬ (false = true) by decide)] at H; exact H);clear H;have H := H1;clear H1;obtain rfl := Option.some.inj H;go_enter Tryd.func33, Tryd.ntmps33;(go_wp2_with (first | ((with_reducible refine gate_dst (N := 1) rfl ?_); refine bx_ 1 #[.string a0_0, .int .i64 a0_1, .int .i64 a0_2, .int .i64 a0_3, .int .i64 a0_4, .int .i64 a0_5, .int .i64 a0_6, .int .i64 a0_7, .int .i64 a0_8, .int .i64 a0_9, .int .i64 a0_10] 61 ?_; intro ab hg w55 hbox hb; have n0_ := qb33 (qf33 (bl_ HB.out) hb); have n1_ := qb33 (hbox); have n2_ := qb33 ((sz_ (below_size (bl_ HB.out)) hg : w.heap.size ≤ ab)); have n3_ := qb33 n2_.out; replace HB := n0_; have aa := n1_; have ad := n2_; have ac := n3_; clear n0_ n1_ n2_ n3_; clear hb hbox hg; have d0 := c11_ aa.out) | ((with_reducible refine gate_callee (f := 37) rfl ?_); refine gl_ (some 5) Tryd.func37 #[.string a0_0] ?_; (with_reducible refine (impl_TxtOk.calls k a0_0 false _ A2.out).mono ?_); rintro e w57 ⟨rfl, hb⟩; refine ⟨_, rfl, ?_⟩; have n0_ := qb33 (blk_below (g := ab) (kb_ aa.out) hb); have n1_ := qb33 (qf33 (bl_ HB.out) hb); replace aa := n0_; replace HB := n1_; clear n0_ n1_; (try clear hb hk hi))));go_ret;exact ⟨rg_, bl_ HB.out⟩
end Go.Proofs.YtnalfnoebhmijaaDoor.Pr
namespace Go.Proofs.YtnalfnoebhmijaaDoor.Pr
open Go.RowKit Go.Proofs.YtnalfnoebhmijaaDoorW.PrintWords Go.Proofs.YtnalfnoebhmijaaDoorW.PrintLast Go.Proofs.YtnalfnoebhmijaaDoorW.PrintMore
attribute [local go_sem] max2_int min2_int max_two min_two max_three min_three max_four min_four
set_option linter.unusedVariables false
set_option linter.unusedSimpArgs false
set_option maxHeartbeats 4000000 in
theorem idxTblRow_calls (p : S56 → Bool) (g : Nat) (fst lb : Array Value) (eg : ∀ args w, (callFunc g args).run Tryd.prog w = .ok (.enter g args) w) (A : Option Addr) (c : Nat) (l : List S56) (w : World) (hr : Kd.C k56 w A l.length l) (hc : l.length ≤ c)
    (hp : ∀ (W : World) (x : S56) (A0 : Option Addr) (c0 : Nat), x ∈ l → Below w.heap.size w W → x.f0.length ≤ c0 → Kd.C k61 W A0 x.f0.length x.f0 → Calls Tryd.prog g (fst.push (.agg #[.slice A0 x.f0.length c0, .bool x.f1]) ++ lb) W fun e w' => e = .returned (.bool (p x)) ∧ Below W.heap.size W w') :
    Calls Tryd.prog 55 #[.slice A l.length c, .func (.func g) fst lb] w fun e w' => e = .returned (.int .i64 (idxOf p l)) ∧ Below w.heap.size w w' := by
  have HR := Aside0.mk hr
  have HP := Aside0.mk hp
  have hm := Kd.C_max hr
  clear hr hp
  go_enter Tryd.func55, Tryd.ntmps55
  go_wp2
  go_loopg [5, 8] l.length (fun gk v5 v8 wr => ∃ k : Nat, k ≤ l.length ∧ l.length - k ≤ gk ∧ v8 = .int .i64 k ∧ Aside0 (Below w.heap.size w wr) ∧ Aside0 (∀ j x, j < k → l[j]? = some x → p x = false))
  case atStart => exact ⟨0, Nat.zero_le _, by omega, rfl, ⟨Below.refl _ w⟩, ⟨fun j x hj => absurd hj (Nat.not_lt_zero _)⟩⟩
  case round =>
    obtain ⟨k, hk, hg, rfl, BW, HN⟩ := hrel
    by_cases hlt : k < l.length
    · have hltz : (k : Int) < (l.length : Int) := by omega
      obtain ⟨ad, A0, c0, eA, hx0, hx1, hl0, hg0⟩ := at_T56 HR.out (k : Int) (by omega) hltz
      cases eA
      replace hx0 := (BW.out.cell (World.block_lt_of_cell? w _ hx0)).trans hx0
      replace hx1 := (BW.out.cell (World.block_lt_of_cell? w _ hx1)).trans hx1
      replace hg0 := Kd.C_below hg0 BW.out
      rw [Int.toNat_natCast] at hx0 hx1
      have hmem := getD_at l k z56 hlt
      have hrd : rd_T56 l (k : Int) = l.getD (k : Int).toNat z56 := rfl
      rw [← hrd] at hmem
      have hcall := HP.out wr (rd_T56 l k) A0 c0 (List.mem_of_getElem? hmem) BW.out hl0 hg0
      clear hg0
      have HM := Aside0.mk hmem
      clear hmem hrd
      cases hq : p (rd_T56 l k) with
      | true =>
        rw [hq] at hcall
        have HQ := Aside0.mk hq
        clear hq
        go_wp2_with ((with_reducible refine hcall.mono ?_); rintro e w' ⟨rfl, hb'⟩)
        go_ret
        exact ⟨by rw [idxOf_hit p l k _ HM.out HQ.out HN.out]; rfl, below_then BW.out BW.out.size hb'⟩
      | false =>
        rw [hq] at hcall
        have HQ := Aside0.mk hq
        clear hq
        go_wp2_with ((with_reducible refine hcall.mono ?_); rintro e w' ⟨rfl, hb'⟩)
        go_roundg (l.length - (k + 1))
        case measure => omega
        case rel =>
          refine ⟨k + 1, by omega, by omega, by go_num, ⟨below_then BW.out BW.out.size hb'⟩, ⟨fun j y hj hy => ?_⟩⟩
          by_cases e : j = k
          · subst e
            rw [HM.out] at hy; cases hy; exact HQ.out
          · exact HN.out j y (by omega) hy
    · have hltz : ¬ (k : Int) < (l.length : Int) := by omega
      have : k = l.length := by omega
      subst this
      go_wp2
      go_ret
      exact ⟨by rw [idxOf_miss p l HN.out]; rfl, BW.out⟩
end Go.Proofs.YtnalfnoebhmijaaDoor.Pr
namespace Go.Proofs.YtnalfnoebhmijaaDoor.Pr
open Go.RowKit Go.Proofs.YtnalfnoebhmijaaDoorW.PrintWords Go.Proofs.YtnalfnoebhmijaaDoorW.PrintLast Go.Proofs.YtnalfnoebhmijaaDoorW.PrintMore
attribute [local go_sem] max2_int min2_int max_two min_two max_three min_three max_four min_four
set_option linter.unusedVariables false
set_option linter.unusedSimpArgs false
set_option maxHeartbeats 2000000 in
theorem contTblRow_calls (p : S56 → Bool) (g : Nat) (fst lb : Array Value) (eg : ∀ args w, (callFunc g args).run Tryd.prog w = .ok (.enter g args) w) (A : Option Addr) (c : Nat) (l : List S56) (w : World) (hr : Kd.C k56 w A l.length l) (hc : l.length ≤ c)
    (hp : ∀ (W : World) (x : S56) (A0 : Option Addr) (c0 : Nat), x ∈ l → Below w.heap.size w W → x.f0.length ≤ c0 → Kd.C k61 W A0 x.f0.length x.f0 → Calls Tryd.prog g (fst.push (.agg #[.slice A0 x.f0.length c0, .bool x.f1]) ++ lb) W fun e w' => e = .returned (.bool (p x)) ∧ Below W.heap.size W w') :
    Calls Tryd.prog 34 #[.slice A l.length c, .func (.func g) fst lb] w fun e w' => e = .returned (.bool (l.any p)) ∧ Below w.heap.size w w' := by
  have hcall := fun W (hb : W = w) => idxTblRow_calls p g fst lb eg A c l W (hb ▸ hr) hc (hb ▸ hp)
  have HC := Aside0.mk hcall
  clear hcall hr hp hc
  have hi := idxOf_range p l
  have hd : decide (0 ≤ idxOf p l) = l.any p := by
    cases h : l.any p
    · apply decide_eq_false; intro q; have := hi.2.2.mp q; rw [h] at this; cases this
    · exact decide_eq_true (hi.2.2.mpr h)
  have HD := Aside0.mk hd
  clear hd hi
  go_enter Tryd.func34, Tryd.ntmps34
  go_wp2_with (go_at_call 55; refine (HC.out _ rfl).mono ?_; rintro e w' ⟨rfl, hb'⟩)
  go_ret
  exact ⟨by rw [← HD.out]; rfl, hb'⟩
end Go.Proofs.YtnalfnoebhmijaaDoor.Pr
namespace Go.Proofs.YtnalfnoebhmijaaDoor.Pr
open Go.RowKit Go.Proofs.YtnalfnoebhmijaaDoorW.PrintWords Go.Proofs.YtnalfnoebhmijaaDoorW.PrintLast Go.Proofs.YtnalfnoebhmijaaDoorW.PrintMore
attribute [local go_sem] max2_int min2_int max_two min_two max_three min_three max_four min_four
set_option linter.unusedVariables false
set_option linter.unusedSimpArgs false
def impl_TblOk_2.f (k : Nat) (a0_0 : ByteArray) (a0_1 : Int) (a0_2 : Int) (a0_3 : Int) (a0_4 : Int) (a0_5 : Int) (a0_6 : Int) (a0_7 : Int) (a0_8 : Int) (a0_9 : Int) (a0_10 : Int) : Option (Bool) := (impl_CellOk.f k a0_0 a0_1 a0_2 a0_3 a0_4 a0_5 a0_6 a0_7 a0_8 a0_9 a0_10).bind fun t403 => (some (!t403))
set_option maxHeartbeats 8000000 in
set_option maxRecDepth 100000 in
theorem impl_TblOk_2.calls (k : Nat) (a0_0 : ByteArray) (a0_1 : Int) (a0_2 : Int) (a0_3 : Int) (a0_4 : Int) (a0_5 : Int) (a0_6 : Int) (a0_7 : Int) (a0_8 : Int) (a0_9 : Int) (a0_10 : Int) (r : Bool) (w : World) (h : impl_TblOk_2.f k a0_0 a0_1 a0_2 a0_3 a0_4 a0_5 a0_6 a0_7 a0_8 a0_9 a0_10 = some r) :
  Calls Tryd.prog 32 #[.agg #[.string a0_0, .int .i64 a0_1, .int .i64 a0_2, .int .i64 a0_3, .int .i64 a0_4, .int .i64 a0_5, .int .i64 a0_6, .int .i64 a0_7, .int .i64 a0_8, .int .i64 a0_9, .int .i64 a0_10]] w fun e w' => e = .returned (.bool r) ∧ Below w.heap.size w w' := by
 have hu61 := Tryd.underlying61;have HB := Aside0.mk (Below.refl w.heap.size w);have H := h;unfold impl_TblOk_2.f at H;clear h;obtain ⟨t403, A2, H⟩ := ob_ H;(try dsimp only at H);obtain rfl := Option.some.inj H;go_enter Tryd.func32, Tryd.ntmps32
 (go_wp2_with (first | ((with_reducible refine gate_dst (N := 1) rfl ?_); refine bx_ 1 #[.string a0_0, .int .i64 a0_1, .int .i64 a0_2, .int .i64 a0_3, .int .i64 a0_4, .int .i64 a0_5, .int .i64 a0_6, .int .i64 a0_7, .int .i64 a0_8, .int .i64 a0_9, .int .i64 a0_10] 61 ?_; intro ab hg w3 hbox hb; have n0_ := Aside0.mk (below_step (bl_ HB.out) hb); have n1_ := Aside0.mk (hbox); have n2_ := Aside0.mk ((sz_ (below_size (bl_ HB.out)) hg : w.heap.size ≤ ab)); have n3_ := Aside0.mk n2_.out; replace HB := n0_; have aa := n1_; have GW402 := n2_; have ac := n3_; clear n0_ n1_ n2_ n3_; clear hb hbox hg; have af := c11_ aa.out) | ((with_reducible refine gate_callee (f := 33) rfl ?_); refine gl_ (some 4) Tryd.func33 #[.agg #[.string a0_0, .int .i64 a0_1, .int .i64 a0_2, .int .i64 a0_3, .int .i64 a0_4, .int .i64 a0_5, .int .i64 a0_6, .int .i64 a0_7, .int .i64 a0_8, .int .i64 a0_9, .int .i64 a0_10]] ?_; (with_reducible refine (impl_CellOk.calls k a0_0 a0_1 a0_2 a0_3 a0_4 a0_5 a0_6 a0_7 a0_8 a0_9 a0_10 t403 _ A2.out).mono ?_); rintro e w5 ⟨rfl, hb⟩; refine ⟨_, rfl, ?_⟩; have n0_ := Aside0.mk (blk_below (g := ab) (kb_ aa.out) hb); have n1_ := Aside0.mk (below_step (bl_ HB.out) hb); replace aa := n0_; replace HB := n1_; clear n0_ n1_; (try clear hb hk hi))));go_ret;exact ⟨by first | rfl | (simp [errW_none, errW_some] <;> rfl) | (simp [*, errW_none, errW_some] <;> rfl), bl_ HB.out⟩
end Go.Proofs.YtnalfnoebhmijaaDoor.Pr
namespace Go.Proofs.YtnalfnoebhmijaaDoor.Pr
open Go.RowKit Go.Proofs.YtnalfnoebhmijaaDoorW.PrintWords Go.Proofs.YtnalfnoebhmijaaDoorW.PrintLast Go.Proofs.YtnalfnoebhmijaaDoorW.PrintMore
attribute [local go_sem] max2_int min2_int max_two min_two max_three min_three max_four min_four
set_option linter.unusedVariables false
set_option linter.unusedSimpArgs false
def tblCellV (x : S61) : Value := .agg #[.string x.f0, .int .i64 x.f1, .int .i64 x.f2, .int .i64 x.f3.f0, .int .i64 x.f3.f1, .int .i64 x.f4.f0, .int .i64 x.f4.f1, .int .i64 x.f5.f0, .int .i64 x.f5.f1, .int .i64 x.f6.f0, .int .i64 x.f6.f1]
set_option maxHeartbeats 4000000 in
theorem idxTblCell_calls (p : S61 → Bool) (g : Nat) (fst lb : Array Value) (eg : ∀ args w, (callFunc g args).run Tryd.prog w = .ok (.enter g args) w) (A : Option Addr) (c : Nat) (l : List S61) (w : World) (hr : Kd.C k61 w A l.length l) (hc : l.length ≤ c)
    (hp : ∀ (W : World) (x : S61), x ∈ l → Below w.heap.size w W → Calls Tryd.prog g (fst.push (tblCellV x) ++ lb) W fun e w' => e = .returned (.bool (p x)) ∧ Below W.heap.size W w') :
    Calls Tryd.prog 56 #[.slice A l.length c, .func (.func g) fst lb] w fun e w' => e = .returned (.int .i64 (idxOf p l)) ∧ Below w.heap.size w w' := by
  have HR := Aside0.mk hr
  have HP := Aside0.mk hp
  have hm := Kd.C_max hr
  clear hr hp
  go_enter Tryd.func56, Tryd.ntmps56
  go_wp2
  go_loopg [5, 8] l.length (fun gk v5 v8 wr => ∃ k : Nat, k ≤ l.length ∧ l.length - k ≤ gk ∧ v8 = .int .i64 k ∧ Aside0 (Below w.heap.size w wr) ∧ Aside0 (∀ j x, j < k → l[j]? = some x → p x = false))
  case atStart => exact ⟨0, Nat.zero_le _, by omega, rfl, ⟨Below.refl _ w⟩, ⟨fun j x hj => absurd hj (Nat.not_lt_zero _)⟩⟩
  case round =>
    obtain ⟨k, hk, hg, rfl, BW, HN⟩ := hrel
    by_cases hlt : k < l.length
    · have hltz : (k : Int) < (l.length : Int) := by omega
      obtain ⟨ad, eA, hx0, hx1, hx2, hx3, hx4, hx5, hx6, hx7, hx8, hx9, hx10⟩ := at_T61 HR.out (k : Int) (by omega) hltz
      cases eA
      replace hx0 := (BW.out.cell (World.block_lt_of_cell? w _ hx0)).trans hx0
      replace hx1 := (BW.out.cell (World.block_lt_of_cell? w _ hx1)).trans hx1
      replace hx2 := (BW.out.cell (World.block_lt_of_cell? w _ hx2)).trans hx2
      replace hx3 := (BW.out.cell (World.block_lt_of_cell? w _ hx3)).trans hx3
      replace hx4 := (BW.out.cell (World.block_lt_of_cell? w _ hx4)).trans hx4
      replace hx5 := (BW.out.cell (World.block_lt_of_cell? w _ hx5)).trans hx5
      replace hx6 := (BW.out.cell (World.block_lt_of_cell? w _ hx6)).trans hx6
      replace hx7 := (BW.out.cell (World.block_lt_of_cell? w _ hx7)).trans hx7
      replace hx8 := (BW.out.cell (World.block_lt_of_cell? w _ hx8)).trans hx8
      replace hx9 := (BW.out.cell (World.block_lt_of_cell? w _ hx9)).trans hx9
      replace hx10 := (BW.out.cell (World.block_lt_of_cell? w _ hx10)).trans hx10
      rw [Int.toNat_natCast] at hx0 hx1 hx2 hx3 hx4 hx5 hx6 hx7 hx8 hx9 hx10
      have hmem := getD_at l k z61 hlt
      have hrd : rd_T61 l (k : Int) = l.getD (k : Int).toNat z61 := rfl
      rw [← hrd] at hmem
      have hcall := HP.out wr (rd_T61 l k) (List.mem_of_getElem? hmem) BW.out
      unfold tblCellV at hcall
      have HM := Aside0.mk hmem
      clear hmem hrd
      cases hq : p (rd_T61 l k) with
      | true =>
        rw [hq] at hcall
        have HQ := Aside0.mk hq
        clear hq
        go_wp2_with ((with_reducible refine hcall.mono ?_); rintro e w' ⟨rfl, hb'⟩)
        go_ret
        exact ⟨by rw [idxOf_hit p l k _ HM.out HQ.out HN.out]; rfl, below_then BW.out BW.out.size hb'⟩
      | false =>
        rw [hq] at hcall
        have HQ := Aside0.mk hq
        clear hq
        go_wp2_with ((with_reducible refine hcall.mono ?_); rintro e w' ⟨rfl, hb'⟩)
        go_roundg (l.length - (k + 1))
        case measure => omega
        case rel =>
          refine ⟨k + 1, by omega, by omega, by go_num, ⟨below_then BW.out BW.out.size hb'⟩, ⟨fun j y hj hy => ?_⟩⟩
          by_cases e : j = k
          · subst e
            rw [HM.out] at hy; cases hy; exact HQ.out
          · exact HN.out j y (by omega) hy
    · have hltz : ¬ (k : Int) < (l.length : Int) := by omega
      have : k = l.length := by omega
      subst this
      go_wp2
      go_ret
      exact ⟨by rw [idxOf_miss p l HN.out]; rfl, BW.out⟩
end Go.Proofs.YtnalfnoebhmijaaDoor.Pr
namespace Go.Proofs.YtnalfnoebhmijaaDoor.Pr
open Go.RowKit Go.Proofs.YtnalfnoebhmijaaDoorW.PrintWords Go.Proofs.YtnalfnoebhmijaaDoorW.PrintLast Go.Proofs.YtnalfnoebhmijaaDoorW.PrintMore
attribute [local go_sem] max2_int min2_int max_two min_two max_three min_three max_four min_four
set_option linter.unusedVariables false
set_option linter.unusedSimpArgs false
set_option maxHeartbeats 2000000 in
theorem contTblCell_calls (p : S61 → Bool) (g : Nat) (fst lb : Array Value) (eg : ∀ args w, (callFunc g args).run Tryd.prog w = .ok (.enter g args) w) (A : Option Addr) (c : Nat) (l : List S61) (w : World) (hr : Kd.C k61 w A l.length l) (hc : l.length ≤ c)
    (hp : ∀ (W : World) (x : S61), x ∈ l → Below w.heap.size w W → Calls Tryd.prog g (fst.push (tblCellV x) ++ lb) W fun e w' => e = .returned (.bool (p x)) ∧ Below W.heap.size W w') :
    Calls Tryd.prog 36 #[.slice A l.length c, .func (.func g) fst lb] w fun e w' => e = .returned (.bool (l.any p)) ∧ Below w.heap.size w w' := by
  have hcall := fun W (hb : W = w) => idxTblCell_calls p g fst lb eg A c l W (hb ▸ hr) hc (hb ▸ hp)
  have HC := Aside0.mk hcall
  clear hcall hr hp hc
  have hi := idxOf_range p l
  have hd : decide (0 ≤ idxOf p l) = l.any p := by
    cases h : l.any p
    · apply decide_eq_false; intro q; have := hi.2.2.mp q; rw [h] at this; cases this
    · exact decide_eq_true (hi.2.2.mpr h)
  have HD := Aside0.mk hd
  clear hd hi
  go_enter Tryd.func36, Tryd.ntmps36
  go_wp2_with (go_at_call 56; refine (HC.out _ rfl).mono ?_; rintro e w' ⟨rfl, hb'⟩)
  go_ret
  exact ⟨by rw [← HD.out]; rfl, hb'⟩
end Go.Proofs.YtnalfnoebhmijaaDoor.Pr
namespace Go.Proofs.YtnalfnoebhmijaaDoor.Pr
open Go.RowKit Go.Proofs.YtnalfnoebhmijaaDoorW.PrintWords Go.Proofs.YtnalfnoebhmijaaDoorW.PrintLast Go.Proofs.YtnalfnoebhmijaaDoorW.PrintMore
attribute [local go_sem] max2_int min2_int max_two min_two max_three min_three max_four min_four
set_option linter.unusedVariables false
set_option linter.unusedSimpArgs false
def cellP (k : Nat) (c : S61) : Option Bool := impl_CellOk.f k (c.f0) (c.f1) (c.f2) (c.f3.f0) (c.f3.f1) (c.f4.f0) (c.f4.f1) (c.f5.f0) (c.f5.f1) (c.f6.f0) (c.f6.f1)
def cellB (k : Nat) (c : S61) : Bool := (cellP k c).getD false
def rowB (k : Nat) (l : List S61) : Bool := decide ((l.length : Int) > 5) || l.any fun c => !(cellB k c)
set_option maxHeartbeats 4000000 in
theorem rowB_calls (k : Nat) (b : Bool) (A0 : Option Addr) (c0 : Nat) (l : List S61) (g : Nat) (w : World) (h1 : w.cell? ⟨g, 0, none⟩ = some (.func (.func 32) #[] #[]))
    (hr : Kd.C k61 w A0 l.length l) (hc : l.length ≤ c0) (hk : ∀ c ∈ l, (cellP k c).isSome = true) :
    Calls Tryd.prog 35 #[.agg #[.slice A0 l.length c0, .bool b], .pointer (some ⟨g, 0, none⟩)] w fun e w' => e = .returned (.bool (rowB k l)) ∧ Below w.heap.size w w' := by
  have l1 : g < w.heap.size := World.block_lt_of_cell? w _ h1
  have n1 : ¬ w.heap.size = g := by omega
  have hcall : ∀ W, Below w.heap.size w W → Calls Tryd.prog 36 #[.slice A0 l.length c0, .func (.func 32) #[] #[]] W fun e w' => e = .returned (.bool (l.any fun c => !(cellB k c))) ∧ Below W.heap.size W w' := fun W hb => by
    refine contTblCell_calls (fun c => !(cellB k c)) 32 #[] #[] (enters_ Tryd.func32 (by kernel_rfl) rfl) A0 c0 l W (Kd.C_below hr hb) hc (fun W' x hx _ => ?_)
    obtain ⟨q, hq⟩ := Option.isSome_iff_exists.mp (hk x hx)
    have e : cellB k x = q := by unfold cellB; rw [hq]; rfl
    rw [e]
    exact impl_TblOk_2.calls k _ _ _ _ _ _ _ _ _ _ _ (!q) W' (by unfold impl_TblOk_2.f; have hq2 := hq; unfold cellP at hq2; rw [hq2]; rfl)
  have HC := Aside0.mk hcall
  have bel : ∀ o, Below w.heap.size w (w.alloc o) := fun o => below_alloc (Below.refl w.heap.size w) o
  have HB := Aside0.mk bel
  clear hcall bel hr hk
  unfold rowB
  by_cases c5 : (l.length : Int) > 5
  · have d5 : decide ((l.length : Int) > 5) = true := decide_eq_true c5
    rw [d5]
    go_enter Tryd.func35, Tryd.ntmps35
    go_wp2
    go_ret
    exact ⟨rfl, HB.out _⟩
  · have d5 : decide ((l.length : Int) > 5) = false := decide_eq_false c5
    rw [d5]
    go_enter Tryd.func35, Tryd.ntmps35
    go_wp2_with (go_at_call 36; refine (HC.out _ (HB.out _)).mono ?_; rintro e w' ⟨rfl, hb'⟩)
    go_ret
    exact ⟨by simp, below_then (HB.out _) (HB.out _).size hb'⟩
end Go.Proofs.YtnalfnoebhmijaaDoor.Pr
namespace Go.Proofs.YtnalfnoebhmijaaDoor.Pr
open Go.RowKit Go.Proofs.YtnalfnoebhmijaaDoorW.PrintWords Go.Proofs.YtnalfnoebhmijaaDoorW.PrintLast Go.Proofs.YtnalfnoebhmijaaDoorW.PrintMore
attribute [local go_sem] max2_int min2_int max_two min_two max_three min_three max_four min_four
set_option linter.unusedVariables false
set_option linter.unusedSimpArgs false
def tin (lo hi n : Int) : Bool := decide (lo ≤ n) && decide (n ≤ hi)
theorem tin_eq (lo hi n : Int) : impl_in.f n lo hi = some (tin lo hi n) := by
  unfold impl_in.f tin
  by_cases h : lo ≤ n
  · rw [if_pos h]; simp [h]
  · rw [if_neg h]; simp [h]
def colB (a b : Int) : Bool := if a = 0 then b == 0 else if a = 1 then tin 0 60 b else if a = 2 then tin 1 100 b else false
theorem colB_eq (a b : Int) : impl_TblCol_ok.f a b = some (colB a b) := by
  unfold impl_TblCol_ok.f colB
  simp only [tin_eq, Option.bind_some]
  split
  · rfl
  · split
    · rfl
    · split <;> rfl
def colsB (l : List S53) : Bool := l.any fun c => !(colB c.f0 c.f1)
def rowsB (k : Nat) (l : List S56) : Bool := l.any fun r => rowB k r.f0
def rowsK (k : Nat) (l : List S56) : Bool := l.all fun r => r.f0.all fun c => (cellP k c).isSome
def impl_TblOk.f (k : Nat) (l0_0 : List S53) (a0_1 a0_2 : Int) (l0_3 : List S56) (a0_4 : Int) : Option Bool :=
  if tin 1 8 (l0_3.length : Int) = true then (if (l0_0.length : Int) > 8 then some false else if tin 0 3 a0_4 = true then
    (if tin 0 (l0_3.length : Int) a0_1 = true then (if tin 0 (wrap64 ((l0_3.length : Int) - a0_1)) a0_2 = true then (if colsB l0_0 = true then some false else if rowsK k l0_3 = true then some (!(rowsB k l0_3)) else none) else some false) else some false) else some false) else some false
theorem any_mem {α : Type} (p q : α → Bool) : ∀ l : List α, (∀ x ∈ l, p x = q x) → l.any p = l.any q
  | [], _ => rfl
  | x :: l, h => by rw [List.any_cons, List.any_cons, h x (by simp), any_mem p q l (fun y hy => h y (by simp [hy]))]
set_option maxHeartbeats 8000000 in
set_option maxRecDepth 100000 in
theorem impl_TblOk.calls (k : Nat) (A0_0 : Option Addr) (c0_0 : Nat) (l0_0 : List S53) (a0_1 a0_2 : Int) (A0_3 : Option Addr) (c0_3 : Nat) (l0_3 : List S56) (a0_4 : Int) (r : Bool) (w : World) (hr0_0 : Kd.C k53 w A0_0 l0_0.length l0_0) (hc0_0 : l0_0.length ≤ c0_0) (hr0_3 : Kd.C k56 w A0_3 l0_3.length l0_3) (hc0_3 : l0_3.length ≤ c0_3) (h : impl_TblOk.f k l0_0 a0_1 a0_2 l0_3 a0_4 = some r) :
    Calls Tryd.prog 9 #[.agg #[.slice A0_0 l0_0.length c0_0, .int .i64 a0_1, .int .i64 a0_2, .slice A0_3 l0_3.length c0_3, .int .i64 a0_4]] w fun e w' => e = .returned (.bool r) ∧ Below w.heap.size w w' := by
  unfold impl_TblOk.f at h
  have bel : ∀ o, Below w.heap.size w (w.alloc o) := fun o => below_alloc (Below.refl w.heap.size w) o
  have HB := Aside0.mk bel
  have hm := Kd.C_max hr0_3
  have i1 := fun W => impl_in.calls (l0_3.length : Int) 1 8 _ W (tin_eq 1 8 (l0_3.length : Int))
  have i3 := fun W => impl_in.calls a0_4 0 3 _ W (tin_eq 0 3 a0_4)
  have i4 := fun W => impl_in.calls a0_1 0 (l0_3.length : Int) _ W (tin_eq 0 (l0_3.length : Int) a0_1)
  have i5 := fun W => impl_in.calls a0_2 0 (wrap64 ((l0_3.length : Int) - a0_1)) _ W (tin_eq 0 (wrap64 ((l0_3.length : Int) - a0_1)) a0_2)
  have hcol : ∀ W, Below w.heap.size w W → Calls Tryd.prog 29 #[.slice A0_0 l0_0.length c0_0, .func (.func 30) #[] #[]] W fun e w' => e = .returned (.bool (colsB l0_0)) ∧ Below W.heap.size W w' := fun W hb => by
    refine contTblCol_calls (fun c => !(colB c.f0 c.f1)) 30 #[] #[] (enters_ Tryd.func30 (by kernel_rfl) rfl) A0_0 c0_0 l0_0 W (Kd.C_below hr0_0 hb) hc0_0 (fun W' x _ _ => ?_)
    exact impl_TblOk_1.calls x.f0 x.f1 _ W' (by unfold impl_TblOk_1.f; rw [colB_eq]; rfl)
  have hrow : rowsK k l0_3 = true → ∀ (W : World) (g : Nat), Below w.heap.size w W → W.cell? ⟨g, 0, none⟩ = some (.func (.func 32) #[] #[]) → Calls Tryd.prog 34 #[.slice A0_3 l0_3.length c0_3, .func (.func 35) #[] #[.pointer (some ⟨g, 0, none⟩)]] W fun e w' => e = .returned (.bool (rowsB k l0_3)) ∧ Below W.heap.size W w' := fun hk W g hb hg => by
    refine contTblRow_calls (fun r => rowB k r.f0) 35 #[] #[.pointer (some ⟨g, 0, none⟩)] (enters_ Tryd.func35 (by kernel_rfl) rfl) A0_3 c0_3 l0_3 W (Kd.C_below hr0_3 hb) hc0_3 (fun W' x A' c' hx hb' hl hC => ?_)
    refine rowB_calls k x.f1 A' c' x.f0 g W' ((hb'.cell (World.block_lt_of_cell? W _ hg)).trans hg) hC hl (fun c hc => ?_)
    unfold rowsK at hk
    exact List.all_eq_true.mp (List.all_eq_true.mp hk x hx) c hc
  clear hr0_0 hr0_3 bel
  generalize tin 1 8 (l0_3.length : Int) = b1 at *
  generalize tin 0 3 a0_4 = b3 at *
  generalize tin 0 (l0_3.length : Int) a0_1 = b4 at *
  generalize tin 0 (wrap64 ((l0_3.length : Int) - a0_1)) a0_2 = b5 at *
  generalize colsB l0_0 = b6 at *
  cases b1 with
  | false =>
    obtain rfl : false = r := by simpa using h
    have I1 := Aside0.mk i1
    clear i1 i3 i4 i5 hcol hrow h
    go_enter Tryd.func9, Tryd.ntmps9
    go_wp2_with ((go_at_call 28; (with_reducible refine (I1.out _).mono ?_); rintro e w' ⟨rfl, ⟨nd, rfl⟩⟩))
    go_ret
    exact ⟨rfl, by repeat (first | exact HB.out _ | apply pw_below_drewN)⟩
  | true =>
  have I1 := Aside0.mk i1
  clear i1
  rw [if_pos rfl] at h
  by_cases c8 : (l0_0.length : Int) > 8
  · rw [if_pos c8] at h
    obtain rfl : false = r := by simpa using h
    have d8 : decide ((l0_0.length : Int) > 8) = true := decide_eq_true c8
    clear i3 i4 i5 hcol hrow h
    go_enter Tryd.func9, Tryd.ntmps9
    go_wp2_with ((go_at_call 28; (with_reducible refine (I1.out _).mono ?_); rintro e w' ⟨rfl, ⟨nd, rfl⟩⟩))
    go_ret
    exact ⟨rfl, by repeat (first | exact HB.out _ | apply pw_below_drewN)⟩
  rw [if_neg c8] at h
  have d8 : decide ((l0_0.length : Int) > 8) = false := decide_eq_false c8
  cases b3 with
  | false =>
    obtain rfl : false = r := by simpa using h
    have I3 := Aside0.mk i3
    clear i3 i4 i5 hcol hrow h
    go_enter Tryd.func9, Tryd.ntmps9
    go_wp2_with (first | (go_at_call 28; (with_reducible refine (I1.out _).mono ?_); rintro e w' ⟨rfl, ⟨nd, rfl⟩⟩) | (go_at_call 28; (with_reducible refine (I3.out _).mono ?_); rintro e w' ⟨rfl, ⟨nd, rfl⟩⟩))
    go_ret
    exact ⟨rfl, by repeat (first | exact HB.out _ | apply pw_below_drewN)⟩
  | true =>
  have I3 := Aside0.mk i3
  clear i3
  rw [if_pos rfl] at h
  cases b4 with
  | false =>
    obtain rfl : false = r := by simpa using h
    have I4 := Aside0.mk i4
    clear i4 i5 hcol hrow h
    go_enter Tryd.func9, Tryd.ntmps9
    go_wp2_with (first | (go_at_call 28; (with_reducible refine (I1.out _).mono ?_); rintro e w' ⟨rfl, ⟨nd, rfl⟩⟩) | (go_at_call 28; (with_reducible refine (I3.out _).mono ?_); rintro e w' ⟨rfl, ⟨nd, rfl⟩⟩) | (go_at_call 28; (with_reducible refine (I4.out _).mono ?_); rintro e w' ⟨rfl, ⟨nd, rfl⟩⟩))
    go_ret
    exact ⟨rfl, by repeat (first | exact HB.out _ | apply pw_below_drewN)⟩
  | true =>
  have I4 := Aside0.mk i4
  clear i4
  rw [if_pos rfl] at h
  cases b5 with
  | false =>
    obtain rfl : false = r := by simpa using h
    have I5 := Aside0.mk i5
    clear i5 hcol hrow h
    go_enter Tryd.func9, Tryd.ntmps9
    go_wp2_with (first | (go_at_call 28; (with_reducible refine (I1.out _).mono ?_); rintro e w' ⟨rfl, ⟨nd, rfl⟩⟩) | (go_at_call 28; (with_reducible refine (I3.out _).mono ?_); rintro e w' ⟨rfl, ⟨nd, rfl⟩⟩) | (go_at_call 28; (with_reducible refine (I4.out _).mono ?_); rintro e w' ⟨rfl, ⟨nd, rfl⟩⟩) | (go_at_call 28; (with_reducible refine (I5.out _).mono ?_); rintro e w' ⟨rfl, ⟨nd, rfl⟩⟩))
    go_ret
    exact ⟨rfl, by repeat (first | exact HB.out _ | apply pw_below_drewN)⟩
  | true =>
  have I5 := Aside0.mk i5
  clear i5
  rw [if_pos rfl] at h
  cases b6 with
  | true =>
    obtain rfl : false = r := by simpa using h
    have IC := Aside0.mk hcol
    clear hcol hrow h
    go_enter Tryd.func9, Tryd.ntmps9
    go_wp2_with (first | (go_at_call 28; (with_reducible refine (I1.out _).mono ?_); rintro e w' ⟨rfl, ⟨nd, rfl⟩⟩) | (go_at_call 28; (with_reducible refine (I3.out _).mono ?_); rintro e w' ⟨rfl, ⟨nd, rfl⟩⟩) | (go_at_call 28; (with_reducible refine (I4.out _).mono ?_); rintro e w' ⟨rfl, ⟨nd, rfl⟩⟩) | (go_at_call 28; (with_reducible refine (I5.out _).mono ?_); rintro e w' ⟨rfl, ⟨nd, rfl⟩⟩) | (go_at_call 29; (with_reducible refine (IC.out _ (by repeat (first | exact HB.out _ | apply pw_below_drewN))).mono ?_); rintro e wc ⟨rfl, hbc⟩; have HBC := Aside0.mk (below_step (by repeat (first | exact HB.out _ | apply pw_below_drewN)) hbc); have HKC := Aside0.mk (blk_below (by (repeat (first | exact blk_new _ _ | refine blk_drewN ?_ _)) : _) hbc); have hz3 : wc.cell? ⟨w.heap.size, 3, none⟩ = some (.slice A0_3 l0_3.length c0_3) := (blk_cell HKC.out 3).trans rfl; have hlw : w.heap.size < wc.heap.size := blk_lt HKC.out; have hnw : ¬ w.heap.size = wc.heap.size := Nat.ne_of_lt hlw; clear hbc))
    go_ret
    exact ⟨rfl, HBC.out⟩
  | false =>
  have IC := Aside0.mk hcol
  clear hcol
  rw [if_neg (by simp)] at h
  by_cases hk : rowsK k l0_3 = true
  case neg => rw [if_neg hk] at h; cases h
  rw [if_pos hk] at h
  obtain rfl := Option.some.inj h
  have IR := Aside0.mk (hrow hk)
  clear hrow h hk
  go_enter Tryd.func9, Tryd.ntmps9
  go_wp2_with (first | (go_at_call 28; (with_reducible refine (I1.out _).mono ?_); rintro e w' ⟨rfl, ⟨nd, rfl⟩⟩) | (go_at_call 28; (with_reducible refine (I3.out _).mono ?_); rintro e w' ⟨rfl, ⟨nd, rfl⟩⟩) | (go_at_call 28; (with_reducible refine (I4.out _).mono ?_); rintro e w' ⟨rfl, ⟨nd, rfl⟩⟩) | (go_at_call 28; (with_reducible refine (I5.out _).mono ?_); rintro e w' ⟨rfl, ⟨nd, rfl⟩⟩) | (go_at_call 29; (with_reducible refine (IC.out _ (by repeat (first | exact HB.out _ | apply pw_below_drewN))).mono ?_); rintro e wc ⟨rfl, hbc⟩; have HBC := Aside0.mk (below_step (by repeat (first | exact HB.out _ | apply pw_below_drewN)) hbc); have HKC := Aside0.mk (blk_below (by (repeat (first | exact blk_new _ _ | refine blk_drewN ?_ _)) : _) hbc); have hz3 : wc.cell? ⟨w.heap.size, 3, none⟩ = some (.slice A0_3 l0_3.length c0_3) := (blk_cell HKC.out 3).trans rfl; have hlw : w.heap.size < wc.heap.size := blk_lt HKC.out; have hnw : ¬ w.heap.size = wc.heap.size := Nat.ne_of_lt hlw; clear hbc) | ((with_reducible refine gate_dst (N := 3) rfl ?_); refine box_event ?hg (N := 3) ?hd (cs := #[.nilFunc]) (t := 57) ?hr ?_; (case hd => rfl); (case hg => rfl); (case hr => first | (go_simp; done) | (go_simp; rfl)); intro gb hgb w4 hbox hb; have hbc : w4.cell? ⟨gb, 0, none⟩ = some .nilFunc := (blk_cell hbox 0).trans rfl; have hbf : w4.frozen? ⟨gb, 0, none⟩ = false := blk_frozen hbox 0; have hlw4 : w.heap.size < gb := (by rw [hgb]; exact hlw); have hz34 : (w4.setCell ⟨gb, 0, none⟩ (.func (.func 32) #[] #[])).cell? ⟨w.heap.size, 3, none⟩ = some (.slice A0_3 l0_3.length c0_3) := (World.cell?_setCell_other _ _ _ _ (by intro h_; have h2_ := congrArg Addr.block h_; dsimp only at h2_; omega)).trans ((hb.cell hlw).trans hz3); have HQ1 := Aside0.mk (below_set (j := 0) (v := .func (.func 32) #[] #[]) (below_step HBC.out hb) (Nat.le_of_lt hlw4)); have HQ2 := Aside0.mk (World.cell?_setCell_same w4 ⟨gb, 0, none⟩ (.func (.func 32) #[] #[]) hbc); clear hgb hbox hb hlw4) | (go_at_call 34; (with_reducible refine (IR.out _ gb HQ1.out HQ2.out).mono ?_); rintro e wd ⟨rfl, hbd⟩; have HBD := Aside0.mk (below_step HQ1.out hbd); clear hbd))
  go_ret
  exact ⟨rfl, HBD.out⟩
end Go.Proofs.YtnalfnoebhmijaaDoor.Pr
namespace Go.Proofs.YtnalfnoebhmijaaDoor.Pr
open Go.RowKit Go.Proofs.YtnalfnoebhmijaaDoorW.PrintWords Go.Proofs.YtnalfnoebhmijaaDoorW.PrintLast Go.Proofs.YtnalfnoebhmijaaDoorW.PrintMore
attribute [local go_sem] max2_int min2_int max_two min_two max_three min_three max_four min_four
set_option linter.unusedVariables false
set_option linter.unusedSimpArgs false
def laws_pwOk.f (k : Nat)  : Option (Bool) := (impl_TxtOk.f k (⟨#[97, 98, 32, 99]⟩ : ByteArray)).bind fun t404 => (some t404)
set_option maxHeartbeats 8000000 in
set_option maxRecDepth 100000 in
theorem laws_pwOk.calls (k : Nat)  (r : Bool) (w : World) (h : laws_pwOk.f k  = some r) :
    Calls Tryd.prog 10 #[] w fun e w' => e = .returned (.bool r) ∧ Below w.heap.size w w' := by
  have HB := Aside0.mk (Below.refl w.heap.size w)
  have H : ((impl_TxtOk.f k (⟨#[97, 98, 32, 99]⟩ : ByteArray)).bind fun t404 => (some t404)) = some r := h
  clear h
  replace H := Option.bind_eq_some_iff.mp H
  obtain ⟨t404, A10, H⟩ := H
  replace H : (some t404) = some r := H
  have A1 := Aside0.mk A10
  clear A10
  obtain rfl := Option.some.inj H
  go_enter Tryd.func10, Tryd.ntmps10
  go_wp2_with (first | ((with_reducible refine gate_callee (f := 37) rfl ?_); refine goesL_ (some 1) rfl rfl Tryd.func37 (by kernel_rfl) rfl #[.string (⟨#[97, 98, 32, 99]⟩ : ByteArray)] rfl (by (try simp only [List.map_toArray, List.map_cons, List.map_nil]); first | done | rfl | (simp only [List.length_drop, List.length_take]; rfl)) ?_; (with_reducible refine (impl_TxtOk.calls k (⟨#[97, 98, 32, 99]⟩ : ByteArray) t404 _ A1.out).mono ?_); rintro e w2 ⟨rfl, hb⟩; refine ⟨_, rfl, ?_⟩; have n0_ := Aside0.mk (below_step (by repeat (first | (with_reducible first | exact HB.out | apply below_alloc | apply pw_below_drewN | apply below_drew1) | exact HB.out)) hb); clear HB; have HB := n0_; clear n0_; (try clear hb); (try clear hb2); (try clear hk); (try clear hi)))
  go_ret
  exact ⟨by first | rfl | (simp [errW_none, errW_some] <;> rfl) | (simp [*, errW_none, errW_some] <;> rfl), by repeat (first | (with_reducible first | exact HB.out | apply below_alloc | apply pw_below_drewN | apply below_drew1) | exact HB.out)⟩
end Go.Proofs.YtnalfnoebhmijaaDoor.Pr
namespace Go.Proofs.YtnalfnoebhmijaaDoor.Pr
open Go.RowKit Go.Proofs.YtnalfnoebhmijaaDoorW.PrintWords Go.Proofs.YtnalfnoebhmijaaDoorW.PrintLast Go.Proofs.YtnalfnoebhmijaaDoorW.PrintMore
attribute [local go_sem] max2_int min2_int max_two min_two max_three min_three max_four min_four
set_option linter.unusedVariables false
set_option linter.unusedSimpArgs false
mutual
def laws_pwPlain.l0 : Nat → Int → List (S53) → Int → Int → List (S56) → Int → List (S53) → Int → Int → List (S56) → Int → Option ((List (S53)) × Int × Int × (List (S56)) × Int)
  | 0, _, _, _, _, _, _, _, _, _, _, _ => none
  | k + 1, x4, x406000, x406001, x406002, x406003, x406004, x408000, x408001, x408002, x408003, x408004 => if x4 < (x406003.length : Int) then (if 0 ≤ x4 then (laws_pwPlain.l1 k x4 0 x406000 x406001 x406002 x406003 x406004 x408000 x408001 x408002 x408003 x408004 ([] : List (S61)) ((rd_T56 x406003 x4).f1)) else (none)) else (some (x408000, x408001, x408002, x408003, x408004))
def laws_pwPlain.l1 : Nat → Int → Int → List (S53) → Int → Int → List (S56) → Int → List (S53) → Int → Int → List (S56) → Int → List (S61) → Bool → Option ((List (S53)) × Int × Int × (List (S56)) × Int)
  | 0, _, _, _, _, _, _, _, _, _, _, _, _, _, _ => none
  | k + 1, x4, x6, x406000, x406001, x406002, x406003, x406004, x408000, x408001, x408002, x408003, x408004, x416000, x416001 => if 0 ≤ x4 then (if x4 < (x406003.length : Int) then (if x6 < (((rd_T56 x406003 x4).f0).length : Int) then (if 0 ≤ x6 then (if x416000.length < 1466015503701 then (laws_pwPlain.l1 k x4 (wrap64 (x6 + 1)) x406000 x406001 x406002 x406003 x406004 x408000 x408001 x408002 x408003 x408004 (x416000 ++ [(⟨(rd_T61 ((rd_T56 x406003 x4).f0) x6).f0, 1, 1, (⟨(rd_T61 ((rd_T56 x406003 x4).f0) x6).f3.f0, (rd_T61 ((rd_T56 x406003 x4).f0) x6).f3.f1⟩ : S59), (⟨(rd_T61 ((rd_T56 x406003 x4).f0) x6).f4.f0, (rd_T61 ((rd_T56 x406003 x4).f0) x6).f4.f1⟩ : S59), (⟨(rd_T61 ((rd_T56 x406003 x4).f0) x6).f5.f0, (rd_T61 ((rd_T56 x406003 x4).f0) x6).f5.f1⟩ : S59), (⟨(rd_T61 ((rd_T56 x406003 x4).f0) x6).f6.f0, (rd_T61 ((rd_T56 x406003 x4).f0) x6).f6.f1⟩ : S59)⟩ : S61)]) x416001) else (none)) else (none)) else (if x408003.length < 4398046511104 then (laws_pwPlain.l0 k (wrap64 (x4 + 1)) x406000 x406001 x406002 x406003 x406004 x408000 x408001 x408002 (x408003 ++ [(⟨x416000, x416001⟩ : S56)]) x408004) else (none))) else (none)) else (none)
end
def laws_pwPlain.f (k : Nat) (l0_0 : List (S53)) (a0_1 : Int) (a0_2 : Int) (l0_3 : List (S56)) (a0_4 : Int) : Option ((List (S53)) × Int × Int × (List (S56)) × Int) := laws_pwPlain.l0 k 0 l0_0 a0_1 a0_2 l0_3 a0_4 (([] : List (S53))) a0_1 a0_2 (([] : List (S56))) a0_4
theorem laws_pwPlain.neww {P : Program} {ops : Array Oper} {rest : List Oper} {a : Act} {Q : Exit → Act → World → Prop} {W : World} (F : World → Prop) (hF : F W) (h : ∀ W', F W' → wpList P ops Q rest a W') : wpList P ops Q rest a W := h W hF
abbrev Qa11 := @Aside0.mk
set_option maxHeartbeats 8000000 in
set_option maxRecDepth 100000 in
theorem laws_pwPlain.calls (k : Nat) (A0_0 : Option Addr) (c0_0 : Nat) (l0_0 : List (S53)) (a0_1 : Int) (a0_2 : Int) (A0_3 : Option Addr) (c0_3 : Nat) (l0_3 : List (S56)) (a0_4 : Int) (r1 : List (S53)) (r2 : Int) (r3 : Int) (r4 : List (S56)) (r5 : Int) (w : World) (hr0_0 : Kd.C k53 w A0_0 l0_0.length l0_0) (hc0_0 : l0_0.length ≤ c0_0) (hr0_3 : Kd.C k56 w A0_3 l0_3.length l0_3) (hc0_3 : l0_3.length ≤ c0_3) (h : laws_pwPlain.f k l0_0 a0_1 a0_2 l0_3 a0_4 = some (r1, r2, r3, r4, r5)) :
  Calls Tryd.prog 11 #[.agg #[.slice A0_0 l0_0.length c0_0, .int .i64 a0_1, .int .i64 a0_2, .slice A0_3 l0_3.length c0_3, .int .i64 a0_4]] w fun e w' => ∃ v0_ v3_ : Value, e = .returned (.agg #[v0_, .int .i64 r2, .int .i64 r3, v3_, .int .i64 r5]) ∧ Kd.R k53 53 w' w.heap.size (fun _ => True) v0_ r1 ∧ Kd.S k56 56 w' w.heap.size (fun _ => True) v3_ r4 ∧ Below w.heap.size w w' := by
 have hu26 := Tryd.underlying26;have hu56 := Tryd.underlying56;have hu61 := Tryd.underlying61;have HR0_0 := Qa11 hr0_0;have HC0_0 := Qa11 hc0_0;clear hr0_0 hc0_0;have bw := Qa11 hr0_3;have HC0_3 := Qa11 hc0_3;clear hr0_3 hc0_3;have HB := Qa11 (Below.refl w.heap.size w);have H := h;unfold laws_pwPlain.f at H;clear h;obtain ⟨av, bg⟩ : ∃ y_ : List (S53), y_ = (([] : List (S53))) := ⟨_, rfl⟩;(replace H : (laws_pwPlain.l0 k 0 l0_0 a0_1 a0_2 l0_3 a0_4 av a0_1 a0_2 (([] : List (S56))) a0_4) = some (r1, r2, r3, r4, r5) := hb_ bg H);have cQ := Qa11 bg;clear bg;obtain ⟨bz, bh⟩ : ∃ y_ : List (S56), y_ = (([] : List (S56))) := ⟨_, rfl⟩;(replace H : (laws_pwPlain.l0 k 0 l0_0 a0_1 a0_2 l0_3 a0_4 av a0_1 a0_2 bz a0_4) = some (r1, r2, r3, r4, r5) := hb_ bh H);have cN := Qa11 bh;clear bh;have H' := Qa11 H;clear H;go_enter Tryd.func11, Tryd.ntmps11
 go_wp2_with (first | ((with_reducible refine gate_dst (N := 1) rfl ?_); refine bx_ 1 #[.slice A0_0 l0_0.length c0_0, .int .i64 a0_1, .int .i64 a0_2, .slice A0_3 l0_3.length c0_3, .int .i64 a0_4] 26 ?_; intro az hg w2 hbox hb; have n0_ := Qa11 (below_step (bl_ HB.out) hb); have n1_ := Qa11 (hbox); have n2_ := Qa11 ((sz_ (below_size (bl_ HB.out)) hg : w.heap.size ≤ az)); have n3_ := Qa11 n2_.out; replace HB := n0_; have ad := n1_; have GW405 := n2_; have aA := n3_; clear n0_ n1_ n2_ n3_; clear hb hbox hg) | ((with_reducible refine gate_dst (N := 2) rfl ?_); refine bx_ 2 #[.slice none 0 0, .int .i64 0, .int .i64 0, .slice none 0 0, .int .i64 0] 26 ?_; intro aj hg w3 hbox hb; have n0_ := Qa11 (blk_below (g := az) (kb_ ad.out) hb); have n1_ := Qa11 (below_step (bl_ HB.out) hb); have n2_ := Qa11 (hbox); have n3_ := Qa11 ((sz_ (below_size (bl_ HB.out)) hg : w.heap.size ≤ aj)); have n4_ := Qa11 n3_.out; have n5_ := Qa11 ((nl_ (blk_lt (g := az) (kb_ ad.out)) hg : az ≠ aj)); have n6_ := Qa11 (Ne.symm n5_.out); replace ad := n0_; replace HB := n1_; have ag := n2_; have GW406 := n3_; have aC := n4_; have aR := n5_; have aU := n6_; clear n0_ n1_ n2_ n3_ n4_ n5_ n6_; clear hb hbox hg; have hnb4 := aR.out; have hnc4 := aU.out; have cj := c5_ ad.out) | ((with_reducible refine gate_dst (N := 3) rfl ?_); refine bx_ 3 #[.slice none 0 0, .int .i64 0, .int .i64 0, .slice none 0 0, .int .i64 0] 26 ?_; intro ax hg w6 hbox hb; have n0_ := Qa11 (blk_below (g := az) (kb_ ad.out) hb); have n1_ := Qa11 (blk_below (g := aj) (kb_ ag.out) hb); have n2_ := Qa11 (below_step (bl_ HB.out) hb); have n3_ := Qa11 (hbox); have n4_ := Qa11 ((sz_ (below_size (bl_ HB.out)) hg : w.heap.size ≤ ax)); have n5_ := Qa11 n4_.out; have n6_ := Qa11 ((nl_ (blk_lt (g := az) (kb_ ad.out)) hg : az ≠ ax)); have n7_ := Qa11 (Ne.symm n6_.out); have n8_ := Qa11 ((nl_ (blk_lt (g := aj) (kb_ ag.out)) hg : aj ≠ ax)); have n9_ := Qa11 (Ne.symm n8_.out); replace ad := n0_; replace ag := n1_; replace HB := n2_; have ac := n3_; have GW407 := n4_; have aG := n5_; have au := n6_; have aT := n7_; have ay := n8_; have a5 := n9_; clear n0_ n1_ n2_ n3_ n4_ n5_ n6_ n7_ n8_ n9_; clear hb hbox hg; have hnb7 := aT.out; have hnc7 := au.out; have hnb8 := a5.out; have hnc8 := ay.out; have cx := c5_ ac.out) | ((with_reducible refine gate_dst (N := 9) rfl ?_); refine Kd.R_lit k53 _ 53 ?hg (N := 9) ?hd (xs := ([] : List (S53))) (inner := []) (ok := fun _ => True) (okp := fun _ => True) ?hr ?hp (fun _ hk => hk) trivial (Below.refl _ _) (Nat.le_refl _) (by simp) ?_; (case hd => rfl); (case hg => rfl); (case hr => go_simp <;> rfl); (case hp => exact (Reps.none _ _)); intro v409 w10 bE hb hg_ hnew_; clear hg_ hnew_; (first | rw [← cQ.out] at bE | (simp only [Int.reduceToNat] at bE; rw [← cQ.out] at bE)); have n0_ := Qa11 (Kd.R_lower bE (below_size (bl_ HB.out))); have n1_ := Qa11 (blk_below (g := az) (o := .cells #[.slice A0_0 l0_0.length c0_0, .int .i64 a0_1, .int .i64 a0_2, .slice A0_3 l0_3.length c0_3, .int .i64 a0_4] 26 (0, 0)) (kf_ ad.out) hb); have n2_ := Qa11 (blk_below (g := aj) (o := .cells #[.slice none 0 0, .int .i64 0, .int .i64 0, .slice none 0 0, .int .i64 0] 26 (0, 0)) (kf_ ag.out) hb); have n3_ := Qa11 (blk_below (g := ax) (o := .cells #[.slice A0_0 l0_0.length c0_0, .int .i64 a0_1, .int .i64 a0_2, .slice A0_3 l0_3.length c0_3, .int .i64 a0_4] 26 (0, 0)) (kf_ ac.out) hb); have n4_ := Qa11 (below_step (bl_ HB.out) hb); have bx := n0_; replace ad := n1_; replace ag := n2_; replace ac := n3_; replace HB := n4_; clear n0_ n1_ n2_ n3_ n4_; clear hb bE; obtain ⟨aE, aD, dO⟩ := Kd.R_slice bx.out; subst dO; have bI := c5_ ac.out) | ((with_reducible refine gate_dst (N := 11) rfl ?_); refine Kd.S_lit k56 _ 56 ?hg (N := 11) ?hd (xs := ([] : List (S56))) (inner := []) (ok := fun _ => True) (okp := fun _ => True) ?hr ?hp (fun _ hk => hk) trivial (Below.refl _ _) (Nat.le_refl _) (by simp) ?_; (case hd => rfl); (case hg => rfl); (case hr => go_simp <;> rfl); (case hp => exact (Reps.none _ _)); intro v412 w14 bA hb hg_ hnew_; clear hg_ hnew_; (first | rw [← cN.out] at bA | (simp only [Int.reduceToNat] at bA; rw [← cN.out] at bA)); have n0_ := Qa11 (Kd.R_below (by (with_reducible repeat (first | apply Kd.R_alloc | apply Kd.R_drewN | apply Kd.R_drew)); exact (Kd.R_mono (Kd.R_far (p := ⟨ax, 0, none⟩) (Kd.R_types bx.out ac.out (by decide)) (fun _ hk => hk.2) (.slice aE av.length aD)) (fun _ h_ => h_.1))) hb); have n1_ := Qa11 (Kd.S_lower bA (below_size (bl_ HB.out))); have n2_ := Qa11 (blk_below (g := az) (o := .cells #[.slice A0_0 l0_0.length c0_0, .int .i64 a0_1, .int .i64 a0_2, .slice A0_3 l0_3.length c0_3, .int .i64 a0_4] 26 (0, 0)) (kf_ ad.out) hb); have n3_ := Qa11 (blk_below (g := aj) (o := .cells #[.slice none 0 0, .int .i64 0, .int .i64 0, .slice none 0 0, .int .i64 0] 26 (0, 0)) (kf_ ag.out) hb); have n4_ := Qa11 (blk_below (g := ax) (o := .cells #[.slice aE av.length aD, .int .i64 a0_1, .int .i64 a0_2, .slice A0_3 l0_3.length c0_3, .int .i64 a0_4] 26 (0, 0)) (kf_ ac.out) hb); have n5_ := Qa11 (below_step (bl_ HB.out) hb); replace bx := n0_; have cR := n1_; replace ad := n2_; replace ag := n3_; replace ac := n4_; replace HB := n5_; clear n0_ n1_ n2_ n3_ n4_ n5_; clear hb bA; obtain ⟨cJ, cH, dP⟩ := Kd.S_slice cR.out; subst dP; have bZ := c5_ ac.out))
 go_loopg [4] k (fun kq v4 w' => ∃ (aa : Int) (ao : List (S56)) (aw : Value), v4 = .int .i64 aa ∧ Aside0 (laws_pwPlain.l0 kq aa l0_0 a0_1 a0_2 l0_3 a0_4 av a0_1 a0_2 ao a0_4 = some (r1, r2, r3, r4, r5)) ∧ Aside0 (kq ≤ k) ∧ Aside0 (Kd.R k53 53 w' w.heap.size (fun _ => True) (.slice aE av.length aD) av) ∧ Aside0 (Kd.S k56 56 w' w.heap.size (fun _ => True) aw ao) ∧ Aside0 (w'.heap[az]? = some (.cells #[(.slice A0_0 l0_0.length c0_0), .int .i64 a0_1, .int .i64 a0_2, (.slice A0_3 l0_3.length c0_3), .int .i64 a0_4] 26 (0, 0))) ∧ Aside0 (w'.heap[aj]? = some (.cells #[(.slice none 0 0), .int .i64 0, .int .i64 0, (.slice none 0 0), .int .i64 0] 26 (0, 0))) ∧ Aside0 (w'.heap[ax]? = some (.cells #[(.slice aE av.length aD), .int .i64 a0_1, .int .i64 a0_2, aw, .int .i64 a0_4] 26 (0, 0))) ∧ Aside0 (Below w.heap.size w w'));(case atStart => exact ⟨(0), (bz), (.slice cJ bz.length cH), (by first | rfl | (simp; done) | (simp [*]; done)), H', ⟨Nat.le_refl _⟩, ⟨by (with_reducible repeat (first | apply Kd.R_alloc | apply Kd.R_drewN | apply Kd.R_drew)); exact Kd.R_mono (Kd.R_far (p := ⟨ax, 3, none⟩) (Kd.R_types bx.out ac.out (by decide)) (fun _ hk => hk.2) (.slice cJ bz.length cH)) (fun _ hk => trivial)⟩, ⟨by (with_reducible repeat (first | apply Kd.S_alloc | apply Kd.S_drewN | apply Kd.S_drew)); exact Kd.S_mono (Kd.S_far (p := ⟨ax, 3, none⟩) (Kd.S_types cR.out ac.out (by decide)) (fun _ hk => hk.2) (.slice cJ bz.length cH)) (fun _ hk => trivial)⟩, ⟨kf_ ad.out⟩, ⟨kf_ ag.out⟩, ⟨kf_ ac.out⟩, ⟨bl_ HB.out⟩⟩)
 case round =>
  clear H';(try clear c1);(try clear p2);(try clear c4);(try clear c7);(try clear c8);(try clear c11);(try clear bI);(try clear bZ);(try clear cj);(try clear cx);(try clear aa);(try clear ao);(try clear aw);(try clear HA);(try clear HK1);(try clear al);(try clear af);(try clear ad);(try clear ag);(try clear ac);(try clear HB);obtain ⟨aa, ao, aw, rfl, HA, HK1, al, af, ad, ag, ac, HB⟩ := hrel
  cases gk with
   | zero => exact absurd HA.out (by simp [laws_pwPlain.l0])
   | succ k1 =>
    have H := HA.out;clear HA;simp only [laws_pwPlain.l0] at H;by_cases c18 : aa < (l0_3.length : Int)
    ·rw [if_pos c18] at H;have cO : decide (aa < (l0_3.length : Int)) = true := decide_eq_true c18;clear c18;by_cases c19 : 0 ≤ aa
     ·rw [if_pos c19] at H;have dr : decide (0 ≤ aa) = true := decide_eq_true c19;clear c19;have H' := Qa11 H;clear H;have hnb20 := aR.out;have hnc20 := aU.out;have hnb21 := au.out;have hnc21 := aT.out;have de := c5_ ad.out;have b6 : 0 ≤ (aa : Int) := dq_;have cb : aa < (l0_3.length : Int) := dq_;obtain ⟨aV, fL, fN, d2, ba, a9, bN, bQ⟩ := at_T56 bw.out aa b6 cb;cases d2;replace ba := (HB.out.cell (World.block_lt_of_cell? w _ ba)).trans ba;replace a9 := (HB.out.cell (World.block_lt_of_cell? w _ a9)).trans a9;have fo := Qa11 bQ;have fc := Qa11 bN;clear bQ bN;replace b6 := eq_true b6;replace cb := eq_true cb
      go_wp2_with (first | ((with_reducible refine gate_dst (N := 5) rfl ?_); refine bx_ 5 #[.slice none 0 0, .bool false] 56 ?_; intro ak hg w23 hbox hb; have n0_ := Qa11 (Kd.R_below (kr_ al.out) hb); have n1_ := Qa11 (Kd.S_below (Kd.S_elderB (ks_ af.out) ak (Nat.le_of_eq hg.symm)) hb); have n2_ := Qa11 (blk_below (g := az) (kb_ ad.out) hb); have n3_ := Qa11 (blk_below (g := aj) (kb_ ag.out) hb); have n4_ := Qa11 (blk_below (g := ax) (kb_ ac.out) hb); have n5_ := Qa11 (below_step (bl_ HB.out) hb); have n6_ := Qa11 (hbox); have n7_ := Qa11 ((sz_ (below_size (bl_ HB.out)) hg : w.heap.size ≤ ak)); have n8_ := Qa11 n7_.out; have n9_ := Qa11 ((nl_ (blk_lt (g := az) (kb_ ad.out)) hg : az ≠ ak)); have bF := Qa11 (Ne.symm n9_.out); have bc := Qa11 ((nl_ (blk_lt (g := aj) (kb_ ag.out)) hg : aj ≠ ak)); have bD := Qa11 (Ne.symm bc.out); have bb := Qa11 ((nl_ (blk_lt (g := ax) (kb_ ac.out)) hg : ax ≠ ak)); have bB := Qa11 (Ne.symm bb.out); replace al := n0_; replace af := n1_; replace ad := n2_; replace ag := n3_; replace ac := n4_; replace HB := n5_; have ah := n6_; have GW415 := n7_; have aW := n8_; have aJ := n9_; have aZ := bF; have aM := bc; have a6 := bD; have aN := bb; have a7 := bB; clear n0_ n1_ n2_ n3_ n4_ n5_ n6_ n7_ n8_ n9_ bF bc bD bb bB; clear hb hbox hg; have hnb24 := aZ.out; have hnc24 := aJ.out; have hnb25 := a6.out; have hnc25 := aM.out; have hnb26 := a7.out; have hnc26 := aN.out; have cU := c2_ ah.out))
      go_loopg [6] k1 (fun kq v6 w' => ∃ (ab : Int) (aq : List (S61)) (aH : Value), v6 = .int .i64 ab ∧ Aside0 (laws_pwPlain.l1 kq aa ab l0_0 a0_1 a0_2 l0_3 a0_4 av a0_1 a0_2 ao a0_4 aq ((rd_T56 l0_3 aa).f1) = some (r1, r2, r3, r4, r5)) ∧ Aside0 (kq ≤ k1) ∧ Aside0 (Kd.R k53 53 w' w.heap.size (fun _ => True) (.slice aE av.length aD) av) ∧ Aside0 (Kd.S k56 56 w' w.heap.size (fun k_ => some k_ ≠ (aH : Value).ownBlock ∧ k_ ≠ ak) aw ao) ∧ Aside0 (Kd.R k61 61 w' w.heap.size (fun _ => True) aH aq) ∧ Aside0 (w'.heap[az]? = some (.cells #[(.slice A0_0 l0_0.length c0_0), .int .i64 a0_1, .int .i64 a0_2, (.slice (some aV) l0_3.length c0_3), .int .i64 a0_4] 26 (0, 0))) ∧ Aside0 (w'.heap[aj]? = some (.cells #[(.slice none 0 0), .int .i64 0, .int .i64 0, (.slice none 0 0), .int .i64 0] 26 (0, 0))) ∧ Aside0 (w'.heap[ax]? = some (.cells #[(.slice aE av.length aD), .int .i64 a0_1, .int .i64 a0_2, aw, .int .i64 a0_4] 26 (0, 0))) ∧ Aside0 (w'.heap[ak]? = some (.cells #[aH, .bool ((rd_T56 l0_3 aa).f1)] 56 (0, 0))) ∧ Aside0 (Below w.heap.size w w'))
      (case atStart => exact ⟨(0), (([] : List (S61))), (.slice none 0 0), (by first | rfl | (simp; done) | (simp [*]; done)), H', ⟨Nat.le_refl _⟩, ⟨by (with_reducible repeat (first | apply Kd.R_alloc | apply Kd.R_drewN | apply Kd.R_drew)); exact Kd.R_mono (Kd.R_far (p := ⟨ak, 1, none⟩) (Kd.R_far (p := ⟨ak, 0, none⟩) (Kd.R_types al.out ah.out (by decide)) (fun _ hk => hk.2) (.slice none 0 0)) (fun _ hk => hk.2) (.bool ((rd_T56 l0_3 aa).f1))) (fun _ hk => trivial)⟩, ⟨by (with_reducible repeat (first | apply Kd.S_alloc | apply Kd.S_drewN | apply Kd.S_drew)); exact Kd.S_mono (Kd.S_far (p := ⟨ak, 1, none⟩) (Kd.S_far (p := ⟨ak, 0, none⟩) (Kd.S_mono af.out (fun k_ hk => (⟨hk, hk.2⟩ : _ ∧ k_ ≠ ak))) (fun _ hk => hk.2) (.slice none 0 0)) (fun _ hk => hk.2) (.bool ((rd_T56 l0_3 aa).f1))) (fun _ hk => ⟨(by simp [Value.ownBlock]), hk.1.2⟩)⟩, ⟨by first | exact Kd.R_nil _ _ _ _ _ | exact Kd.N_nil _ _ _ _ _ | exact Kd.V_nil _ _ _ _ _ | exact Kd.Q_nil _ _ _ _ _ | exact Kd.S_nil _ _ _ _ _⟩, ⟨kf_ ad.out⟩, ⟨kf_ ag.out⟩, ⟨kf_ ac.out⟩, ⟨kf_ ah.out⟩, ⟨bl_ HB.out⟩⟩)
      case round =>
       clear H';(try clear c1);(try clear c2);(try clear p2);(try clear c4);(try clear p4);(try clear q4);(try clear hx4);(try clear c7);(try clear c8);(try clear c11);(try clear c18);(try clear cO);(try clear c19);(try clear dr);(try clear c20);(try clear c21);(try clear c24);(try clear c25);(try clear c26);(try clear bI);(try clear bZ);(try clear de);(try clear cU);(try clear cj);(try clear cx);(try clear ba);(try clear a9);(try clear p2);(try clear b6);(try clear cb);(try clear ab);(try clear aq);(try clear aH);(try clear HA);(try clear HK2);(try clear al);(try clear af);(try clear ai);(try clear ad);(try clear ag);(try clear ac);(try clear ah);(try clear HB);obtain ⟨ab, aq, aH, rfl, HA, HK2, al, af, ai, ad, ag, ac, ah, HB⟩ := hrel
       cases gk with
        | zero => exact absurd HA.out (by simp [laws_pwPlain.l1])
        | succ k2 =>
         have H := HA.out;clear HA;simp only [laws_pwPlain.l1] at H;by_cases c28 : 0 ≤ aa
         ·rw [if_pos c28] at H;have c28b0 : decide (0 ≤ aa) = true := decide_eq_true c28;clear c28;by_cases c29 : aa < (l0_3.length : Int)
          ·rw [if_pos c29] at H;have c29b0 : decide (aa < (l0_3.length : Int)) = true := decide_eq_true c29;clear c29;by_cases c30 : ab < (((rd_T56 l0_3 aa).f0).length : Int)
           ·rw [if_pos c30] at H;have dk : decide (ab < (((rd_T56 l0_3 aa).f0).length : Int)) = true := decide_eq_true c30;clear c30;by_cases c31 : 0 ≤ ab
            ·rw [if_pos c31] at H;have c31b0 : decide (0 ≤ ab) = true := decide_eq_true c31;clear c31;by_cases c32 : aq.length < 1466015503701
             ·rw [if_pos c32] at H;have dq := Qa11 c32;clear c32;obtain ⟨bk, bj⟩ : ∃ y_ : List (S61), y_ = (aq ++ [(⟨(rd_T61 ((rd_T56 l0_3 aa).f0) ab).f0, 1, 1, (⟨(rd_T61 ((rd_T56 l0_3 aa).f0) ab).f3.f0, (rd_T61 ((rd_T56 l0_3 aa).f0) ab).f3.f1⟩ : S59), (⟨(rd_T61 ((rd_T56 l0_3 aa).f0) ab).f4.f0, (rd_T61 ((rd_T56 l0_3 aa).f0) ab).f4.f1⟩ : S59), (⟨(rd_T61 ((rd_T56 l0_3 aa).f0) ab).f5.f0, (rd_T61 ((rd_T56 l0_3 aa).f0) ab).f5.f1⟩ : S59), (⟨(rd_T61 ((rd_T56 l0_3 aa).f0) ab).f6.f0, (rd_T61 ((rd_T56 l0_3 aa).f0) ab).f6.f1⟩ : S59)⟩ : S61)]) := ⟨_, rfl⟩;(replace H : (laws_pwPlain.l1 k2 aa (wrap64 (ab + 1)) l0_0 a0_1 a0_2 l0_3 a0_4 av a0_1 a0_2 ao a0_4 bk ((rd_T56 l0_3 aa).f1)) = some (r1, r2, r3, r4, r5) := hb_ bj H);have dn := Qa11 bj;clear bj;have H' := Qa11 H;clear H;have hnb33 := aR.out;have hnc33 := aU.out;have hnb34 := au.out;have hnc34 := aT.out;have hnb35 := aJ.out;have hnc35 := aZ.out;have d6 := c5_ ad.out;have bf : 0 ≤ (aa : Int) := dq_;have be : aa < (l0_3.length : Int) := dq_;obtain ⟨ca, dg, dh, cI, aK, aQ, aY, aX⟩ := at_T56 bw.out aa bf be;obtain rfl : aV = ca := (by injection cI);replace aK := (HB.out.cell (World.block_lt_of_cell? w _ aK)).trans aK;replace aQ := (HB.out.cell (World.block_lt_of_cell? w _ aQ)).trans aQ;have cY := Qa11 aX;have c0 := Qa11 aY;clear aX aY;replace bf := eq_true bf;replace be := eq_true be;have cD : 0 ≤ (aa : Int) := dq_;have cK : aa < (l0_3.length : Int) := dq_;obtain ⟨dl, fM, fO, d0, a8, bs, b1, bS⟩ := at_T56 bw.out aa cD cK;obtain rfl : aV = dl := (by injection d0);replace a8 := (HB.out.cell (World.block_lt_of_cell? w _ a8)).trans a8;replace bs := (HB.out.cell (World.block_lt_of_cell? w _ bs)).trans bs;have cX := Qa11 bS;have e5 := Qa11 b1;clear bS b1;replace cD := eq_true cD;replace cK := eq_true cK;have ea_ := Option.some.inj (aK.symm.trans a8);injection ea_ with ea_ en_ ec_;subst ea_;subst ec_;clear en_;have cE : 0 ≤ (ab : Int) := dq_;have cF : ab < (((rd_T56 l0_3 aa).f0).length : Int) := dq_;obtain ⟨ad418, dM, bp, bu, bt, br, bv, bq, bo, bm, bn, bl, bd⟩ := at_T61 cX.out ab cE cF;cases dM
              replace bp := (HB.out.cell (World.block_lt_of_cell? w _ bp)).trans bp;replace bu := (HB.out.cell (World.block_lt_of_cell? w _ bu)).trans bu;replace bt := (HB.out.cell (World.block_lt_of_cell? w _ bt)).trans bt;replace br := (HB.out.cell (World.block_lt_of_cell? w _ br)).trans br;replace bv := (HB.out.cell (World.block_lt_of_cell? w _ bv)).trans bv;replace bq := (HB.out.cell (World.block_lt_of_cell? w _ bq)).trans bq;replace bo := (HB.out.cell (World.block_lt_of_cell? w _ bo)).trans bo;replace bm := (HB.out.cell (World.block_lt_of_cell? w _ bm)).trans bm;replace bn := (HB.out.cell (World.block_lt_of_cell? w _ bn)).trans bn;replace bl := (HB.out.cell (World.block_lt_of_cell? w _ bl)).trans bl;replace bd := (HB.out.cell (World.block_lt_of_cell? w _ bd)).trans bd;replace cE := eq_true cE;replace cF := eq_true cF
              go_wp2_with (first | ((with_reducible refine gate_dst (N := 7) rfl ?_); refine bx_ 7 #[.string (⟨#[]⟩ : ByteArray), .int .i64 0, .int .i64 0, .int .i64 0, .int .i64 0, .int .i64 0, .int .i64 0, .int .i64 0, .int .i64 0, .int .i64 0, .int .i64 0] 61 ?_; intro aI hg w37 hbox hb; have n0_ := Qa11 (Kd.R_below (kr_ al.out) hb); have n1_ := Qa11 (Kd.S_below (Kd.S_elderB (ks_ af.out) aI (Nat.le_of_eq hg.symm)) hb); have n2_ := Qa11 (Kd.R_below (Kd.R_elderB (kr_ ai.out) aI (Nat.le_of_eq hg.symm)) hb); have n3_ := Qa11 (blk_below (g := az) (kb_ ad.out) hb); have n4_ := Qa11 (blk_below (g := aj) (kb_ ag.out) hb); have n5_ := Qa11 (blk_below (g := ax) (kb_ ac.out) hb); have n6_ := Qa11 (blk_below (g := ak) (kb_ ah.out) hb); have n7_ := Qa11 (below_step (bl_ HB.out) hb); have n8_ := Qa11 (hbox); have n9_ := Qa11 ((sz_ (below_size (bl_ HB.out)) hg : w.heap.size ≤ aI)); have bF := Qa11 n9_.out; have bc := Qa11 ((nl_ (blk_lt (g := az) (kb_ ad.out)) hg : az ≠ aI)); have bD := Qa11 (Ne.symm bc.out); have bb := Qa11 ((nl_ (blk_lt (g := aj) (kb_ ag.out)) hg : aj ≠ aI)); have bB := Qa11 (Ne.symm bb.out); have cL := Qa11 ((nl_ (blk_lt (g := ax) (kb_ ac.out)) hg : ax ≠ aI)); have dj := Qa11 (Ne.symm cL.out); have cC := Qa11 ((nl_ (blk_lt (g := ak) (kb_ ah.out)) hg : ak ≠ aI)); have di := Qa11 (Ne.symm cC.out); replace al := n0_; replace af := n1_; replace ai := n2_; replace ad := n3_; replace ag := n4_; replace ac := n5_; replace ah := n6_; replace HB := n7_; have ae := n8_; have GW419 := n9_; have cT := bF; have an := bc; have cy := bD; have am := bb; have cf := bB; have ap := cL; have ck := dj; have ar := cC; have cm := di; clear n0_ n1_ n2_ n3_ n4_ n5_ n6_ n7_ n8_ n9_ bF bc bD bb bB cL dj cC di; clear hb hbox hg; have hnb38 := cy.out; have hnc38 := an.out; have hnb39 := cf.out; have hnc39 := am.out; have hnb40 := ck.out; have hnc40 := ap.out; have hnb41 := cm.out; have hnc41 := ar.out; have eF := c11_ ae.out; have hnb43 := a6.out; have hnc43 := aM.out; have hnb44 := a7.out; have hnc44 := aN.out; have eT := c2_ ah.out) | ((with_reducible refine gate_dst (N := 49) rfl ?_); refine laws_pwPlain.neww (fun W_ => Aside0 (Kd.R k53 53 W_ w.heap.size (fun _ => True) (.slice aE av.length aD) av) ∧ Aside0 (Kd.S k56 56 W_ w.heap.size (fun k_ => (some k_ ≠ (aH : Value).ownBlock ∧ k_ ≠ ak) ∧ k_ ≠ aI) aw ao) ∧ Aside0 (Kd.R k61 61 W_ w.heap.size (fun k_ => True ∧ k_ ≠ aI) aH aq) ∧ Aside0 (W_.heap[az]? = some (.cells #[.slice A0_0 l0_0.length c0_0, .int .i64 a0_1, .int .i64 a0_2, .slice (some aV) l0_3.length c0_3, .int .i64 a0_4] 26 (0, 0))) ∧ Aside0 (W_.heap[aj]? = some (.cells #[.slice none 0 0, .int .i64 0, .int .i64 0, .slice none 0 0, .int .i64 0] 26 (0, 0))) ∧ Aside0 (W_.heap[ax]? = some (.cells #[.slice aE av.length aD, .int .i64 a0_1, .int .i64 a0_2, aw, .int .i64 a0_4] 26 (0, 0))) ∧ Aside0 (W_.heap[ak]? = some (.cells #[aH, .bool ((rd_T56 l0_3 aa).f1)] 56 (0, 0))) ∧ Aside0 (W_.heap[aI]? = some (.cells #[.string ((rd_T61 ((rd_T56 l0_3 aa).f0) ab).f0), .int .i64 1, .int .i64 1, .int .i64 ((rd_T61 ((rd_T56 l0_3 aa).f0) ab).f3.f0), .int .i64 ((rd_T61 ((rd_T56 l0_3 aa).f0) ab).f3.f1), .int .i64 ((rd_T61 ((rd_T56 l0_3 aa).f0) ab).f4.f0), .int .i64 ((rd_T61 ((rd_T56 l0_3 aa).f0) ab).f4.f1), .int .i64 ((rd_T61 ((rd_T56 l0_3 aa).f0) ab).f5.f0), .int .i64 ((rd_T61 ((rd_T56 l0_3 aa).f0) ab).f5.f1), .int .i64 ((rd_T61 ((rd_T56 l0_3 aa).f0) ab).f6.f0), .int .i64 ((rd_T61 ((rd_T56 l0_3 aa).f0) ab).f6.f1)] 61 (0, 0))) ∧ Aside0 (Below w.heap.size w W_)) ⟨⟨Kd.R_mono (ok := fun k_ => True ∧ k_ ≠ aI) (by (iterate 13 refine Kd.R_far ?_ (fun _ hk => hk.2) _); exact Kd.R_types al.out ae.out (by decide)) (fun _ _ => trivial)⟩, ⟨(by (iterate 13 refine Kd.S_far ?_ (fun _ hk => hk.2) _); exact af.out)⟩, ⟨(by (iterate 13 refine Kd.R_far ?_ (fun _ hk => hk.2) _); exact ai.out)⟩, ⟨(by (with_reducible repeat (first | apply blk_drewN | apply blk_drew | apply blk_alloc)); (iterate 13 refine blk_far ?_ an.out _); exact kb_ ad.out)⟩, ⟨(by (with_reducible repeat (first | apply blk_drewN | apply blk_drew | apply blk_alloc)); (iterate 13 refine blk_far ?_ am.out _); exact kb_ ag.out)⟩, ⟨(by (with_reducible repeat (first | apply blk_drewN | apply blk_drew | apply blk_alloc)); (iterate 13 refine blk_far ?_ ap.out _); exact kb_ ac.out)⟩, ⟨(by (with_reducible repeat (first | apply blk_drewN | apply blk_drew | apply blk_alloc)); (iterate 13 refine blk_far ?_ ar.out _); exact kb_ ah.out)⟩, ⟨(by (with_reducible repeat (first | apply blk_drewN | apply blk_drew | apply blk_alloc)); refine blk_put (cs := #[.string ((rd_T61 ((rd_T56 l0_3 aa).f0) ab).f0), .int .i64 1, .int .i64 ((rd_T61 ((rd_T56 l0_3 aa).f0) ab).f2), .int .i64 ((rd_T61 ((rd_T56 l0_3 aa).f0) ab).f3.f0), .int .i64 ((rd_T61 ((rd_T56 l0_3 aa).f0) ab).f3.f1), .int .i64 ((rd_T61 ((rd_T56 l0_3 aa).f0) ab).f4.f0), .int .i64 ((rd_T61 ((rd_T56 l0_3 aa).f0) ab).f4.f1), .int .i64 ((rd_T61 ((rd_T56 l0_3 aa).f0) ab).f5.f0), .int .i64 ((rd_T61 ((rd_T56 l0_3 aa).f0) ab).f5.f1), .int .i64 ((rd_T61 ((rd_T56 l0_3 aa).f0) ab).f6.f0), .int .i64 ((rd_T61 ((rd_T56 l0_3 aa).f0) ab).f6.f1)]) ?_ 2 _ rfl; refine blk_put (cs := #[.string ((rd_T61 ((rd_T56 l0_3 aa).f0) ab).f0), .int .i64 ((rd_T61 ((rd_T56 l0_3 aa).f0) ab).f1), .int .i64 ((rd_T61 ((rd_T56 l0_3 aa).f0) ab).f2), .int .i64 ((rd_T61 ((rd_T56 l0_3 aa).f0) ab).f3.f0), .int .i64 ((rd_T61 ((rd_T56 l0_3 aa).f0) ab).f3.f1), .int .i64 ((rd_T61 ((rd_T56 l0_3 aa).f0) ab).f4.f0), .int .i64 ((rd_T61 ((rd_T56 l0_3 aa).f0) ab).f4.f1), .int .i64 ((rd_T61 ((rd_T56 l0_3 aa).f0) ab).f5.f0), .int .i64 ((rd_T61 ((rd_T56 l0_3 aa).f0) ab).f5.f1), .int .i64 ((rd_T61 ((rd_T56 l0_3 aa).f0) ab).f6.f0), .int .i64 ((rd_T61 ((rd_T56 l0_3 aa).f0) ab).f6.f1)]) ?_ 1 _ rfl; apply bp11_; exact kb_ ae.out)⟩, ⟨(bl_ HB.out)⟩⟩ ?_; intro w990 ⟨n0_, n1_, n2_, n3_, n4_, n5_, n6_, n7_, n8_⟩; replace al := n0_; replace af := n1_; replace ai := n2_; replace ad := n3_; replace ag := n4_; replace ac := n5_; replace ah := n6_; replace ae := n7_; replace HB := n8_; clear n0_ n1_ n2_ n3_ n4_ n5_ n6_ n7_ n8_; have dv := c2_ ah.out; have dx := c11_ ae.out; go_step) | ((with_reducible refine gate_builtin (b := .append) (xs := #[.tmp 50, .tmp 52]) rfl ?_); at_builtin; refine Kd.R_append k61 (w0 := w) w.heap.size rfl (.tmp 50) (.tmp 52) 54 61 (.agg #[(.string ⟨#[]⟩), (.int .i64 0), (.int .i64 0), (.int .i64 0), (.int .i64 0), (.int .i64 0), (.int .i64 0), (.int .i64 0), (.int .i64 0), (.int .i64 0), (.int .i64 0)]) 96 rfl Tryd.underlying54 info61 rfl (by decide) (by omega) aH aq (⟨(rd_T61 ((rd_T56 l0_3 aa).f0) ab).f0, 1, 1, (⟨(rd_T61 ((rd_T56 l0_3 aa).f0) ab).f3.f0, (rd_T61 ((rd_T56 l0_3 aa).f0) ab).f3.f1⟩ : S59), (⟨(rd_T61 ((rd_T56 l0_3 aa).f0) ab).f4.f0, (rd_T61 ((rd_T56 l0_3 aa).f0) ab).f4.f1⟩ : S59), (⟨(rd_T61 ((rd_T56 l0_3 aa).f0) ab).f5.f0, (rd_T61 ((rd_T56 l0_3 aa).f0) ab).f5.f1⟩ : S59), (⟨(rd_T61 ((rd_T56 l0_3 aa).f0) ab).f6.f0, (rd_T61 ((rd_T56 l0_3 aa).f0) ab).f6.f1⟩ : S59)⟩ : S61) [.string ((rd_T61 ((rd_T56 l0_3 aa).f0) ab).f0), .int .i64 1, .int .i64 1, .int .i64 ((rd_T61 ((rd_T56 l0_3 aa).f0) ab).f3.f0), .int .i64 ((rd_T61 ((rd_T56 l0_3 aa).f0) ab).f3.f1), .int .i64 ((rd_T61 ((rd_T56 l0_3 aa).f0) ab).f4.f0), .int .i64 ((rd_T61 ((rd_T56 l0_3 aa).f0) ab).f4.f1), .int .i64 ((rd_T61 ((rd_T56 l0_3 aa).f0) ab).f5.f0), .int .i64 ((rd_T61 ((rd_T56 l0_3 aa).f0) ab).f5.f1), .int .i64 ((rd_T61 ((rd_T56 l0_3 aa).f0) ab).f6.f0), .int .i64 ((rd_T61 ((rd_T56 l0_3 aa).f0) ab).f6.f1)] (fun k_ => k_ ≠ aI) (fun _ => False) rfl (by first | (go_simp; done) | (go_simp; rfl)) ?aP (fun _ hk => hk.elim) ?aF ?aO ?aB ?aS ?aL ?_; (case aP => exact k61_mkM _ _ _ (⟨(rd_T61 ((rd_T56 l0_3 aa).f0) ab).f0, 1, 1, (⟨(rd_T61 ((rd_T56 l0_3 aa).f0) ab).f3.f0, (rd_T61 ((rd_T56 l0_3 aa).f0) ab).f3.f1⟩ : S59), (⟨(rd_T61 ((rd_T56 l0_3 aa).f0) ab).f4.f0, (rd_T61 ((rd_T56 l0_3 aa).f0) ab).f4.f1⟩ : S59), (⟨(rd_T61 ((rd_T56 l0_3 aa).f0) ab).f5.f0, (rd_T61 ((rd_T56 l0_3 aa).f0) ab).f5.f1⟩ : S59), (⟨(rd_T61 ((rd_T56 l0_3 aa).f0) ab).f6.f0, (rd_T61 ((rd_T56 l0_3 aa).f0) ab).f6.f1⟩ : S59)⟩ : S61)); (case aB => exact HB.out); (case aF => exact (fun k_ hk => Kd.freshB (g := aI) (o := .cells #[.string ((rd_T61 ((rd_T56 l0_3 aa).f0) ab).f0), .int .i64 1, .int .i64 1, .int .i64 ((rd_T61 ((rd_T56 l0_3 aa).f0) ab).f3.f0), .int .i64 ((rd_T61 ((rd_T56 l0_3 aa).f0) ab).f3.f1), .int .i64 ((rd_T61 ((rd_T56 l0_3 aa).f0) ab).f4.f0), .int .i64 ((rd_T61 ((rd_T56 l0_3 aa).f0) ab).f4.f1), .int .i64 ((rd_T61 ((rd_T56 l0_3 aa).f0) ab).f5.f0), .int .i64 ((rd_T61 ((rd_T56 l0_3 aa).f0) ab).f5.f1), .int .i64 ((rd_T61 ((rd_T56 l0_3 aa).f0) ab).f6.f0), .int .i64 ((rd_T61 ((rd_T56 l0_3 aa).f0) ab).f6.f1)] 61 (0, 0)) ae.out k_ hk)); (case aO => exact (Kd.R_mono ai.out (fun _ hk => hk.2))); (case aS => exact (below_size HB.out)); (case aL => have := dq.out; omega); intro v421 w46 ho hb hg hat; rw [← dn.out] at ho; have n0_ := Qa11 (Kd.R_over' al.out (Kd.R_typed ai.out) (by decide) hg); have n1_ := Qa11 (Kd.S_after (ok := (fun k_ => k_ ≠ ak ∧ k_ ≠ aI)) (Kd.S_mono af.out (fun _ hk => ⟨⟨hk.1.2, hk.2⟩, hk.1.1⟩)) hg hat); have n2_ := Qa11 (blk_grown (g := az) (o := .cells #[.slice A0_0 l0_0.length c0_0, .int .i64 a0_1, .int .i64 a0_2, .slice (some aV) l0_3.length c0_3, .int .i64 a0_4] 26 (0, 0)) ad.out hg (Kd.R_ne ai.out ad.out (by decide))); have n3_ := Qa11 (blk_grown (g := aj) (o := .cells #[.slice none 0 0, .int .i64 0, .int .i64 0, .slice none 0 0, .int .i64 0] 26 (0, 0)) ag.out hg (Kd.R_ne ai.out ag.out (by decide))); have n4_ := Qa11 (blk_grown (g := ax) (o := .cells #[.slice aE av.length aD, .int .i64 a0_1, .int .i64 a0_2, aw, .int .i64 a0_4] 26 (0, 0)) ac.out hg (Kd.R_ne ai.out ac.out (by decide))); have n5_ := Qa11 (blk_grown (g := ak) (o := .cells #[aH, .bool ((rd_T56 l0_3 aa).f1)] 56 (0, 0)) ah.out hg (Kd.R_ne ai.out ah.out (by decide))); have n6_ := Qa11 (blk_grown (g := aI) (o := .cells #[.string ((rd_T61 ((rd_T56 l0_3 aa).f0) ab).f0), .int .i64 1, .int .i64 1, .int .i64 ((rd_T61 ((rd_T56 l0_3 aa).f0) ab).f3.f0), .int .i64 ((rd_T61 ((rd_T56 l0_3 aa).f0) ab).f3.f1), .int .i64 ((rd_T61 ((rd_T56 l0_3 aa).f0) ab).f4.f0), .int .i64 ((rd_T61 ((rd_T56 l0_3 aa).f0) ab).f4.f1), .int .i64 ((rd_T61 ((rd_T56 l0_3 aa).f0) ab).f5.f0), .int .i64 ((rd_T61 ((rd_T56 l0_3 aa).f0) ab).f5.f1), .int .i64 ((rd_T61 ((rd_T56 l0_3 aa).f0) ab).f6.f0), .int .i64 ((rd_T61 ((rd_T56 l0_3 aa).f0) ab).f6.f1)] 61 (0, 0)) ae.out hg (Kd.R_away ai.out (fun _ hk => hk.2))); have n7_ := Qa11 (hb); have n8_ := Qa11 (ho); clear ai; replace al := n0_; replace af := n1_; replace ad := n2_; replace ag := n3_; replace ac := n4_; replace ah := n5_; replace ae := n6_; replace HB := n7_; have cS := n8_; clear n0_ n1_ n2_ n3_ n4_ n5_ n6_ n7_ n8_; clear ho hb hg hat; obtain ⟨cc, b7, dV⟩ := Kd.R_slice cS.out; subst dV; have d3 := c2_ ah.out))
              go_roundg k2;(case measure => have := HK1.out; have := HK2.out; omega);(case rel => exact ⟨(wrap64 (ab + 1)), (bk), (.slice cc bk.length b7), (by first | rfl | (simp; done) | (simp [*]; done)), H', ⟨by have := HK1.out; have := HK2.out; omega⟩, ⟨by (with_reducible repeat (first | apply Kd.R_alloc | apply Kd.R_drewN | apply Kd.R_drew)); exact Kd.R_mono (Kd.R_far (p := ⟨ak, 0, none⟩) (Kd.R_types al.out ah.out (by decide)) (fun _ hk => hk.2) (.slice cc bk.length b7)) (fun _ hk => trivial)⟩, ⟨by (with_reducible repeat (first | apply Kd.S_alloc | apply Kd.S_drewN | apply Kd.S_drew)); exact Kd.S_mono (Kd.S_far (p := ⟨ak, 0, none⟩) (Kd.S_mono af.out (fun k_ hk => (⟨hk, hk.1.1⟩ : _ ∧ k_ ≠ ak))) (fun _ hk => hk.2) (.slice cc bk.length b7)) (fun _ hk => ⟨hk.1.2, hk.1.1.1⟩)⟩, ⟨by (with_reducible repeat (first | apply Kd.R_alloc | apply Kd.R_drewN | apply Kd.R_drew)); exact Kd.R_mono (Kd.R_far (p := ⟨ak, 0, none⟩) (Kd.R_types cS.out ah.out (by decide)) (fun _ hk => hk.2) (.slice cc bk.length b7)) (fun _ hk => trivial)⟩, ⟨kf_ ad.out⟩, ⟨kf_ ag.out⟩, ⟨kf_ ac.out⟩, ⟨kf_ ah.out⟩, ⟨bl_ HB.out⟩⟩)
             rw [if_neg c32] at H;exact absurd H (by simp)
            rw [if_neg c31] at H;exact absurd H (by simp)
           rw [if_neg c30] at H;have dk : decide (ab < (((rd_T56 l0_3 aa).f0).length : Int)) = false := decide_eq_false c30;clear c30;by_cases c49 : ao.length < 4398046511104
           ·rw [if_pos c49] at H;have dm := Qa11 c49;clear c49;obtain ⟨bC, bi⟩ : ∃ y_ : List (S56), y_ = (ao ++ [(⟨aq, ((rd_T56 l0_3 aa).f1)⟩ : S56)]) := ⟨_, rfl⟩;(replace H : (laws_pwPlain.l0 k2 (wrap64 (aa + 1)) l0_0 a0_1 a0_2 l0_3 a0_4 av a0_1 a0_2 bC a0_4) = some (r1, r2, r3, r4, r5) := hb_ bi H);have dp := Qa11 bi;clear bi;have H' := Qa11 H;clear H;have hnb50 := aR.out;have hnc50 := aU.out;have hnb51 := au.out;have hnc51 := aT.out;have hnb52 := aJ.out;have hnc52 := aZ.out;have e4 := c5_ ad.out;have bf : 0 ≤ (aa : Int) := dq_;have be : aa < (l0_3.length : Int) := dq_;obtain ⟨ca, dg, dh, cI, aK, aQ, aY, aX⟩ := at_T56 bw.out aa bf be;obtain rfl : aV = ca := (by injection cI);replace aK := (HB.out.cell (World.block_lt_of_cell? w _ aK)).trans aK;replace aQ := (HB.out.cell (World.block_lt_of_cell? w _ aQ)).trans aQ;have cY := Qa11 aX;have c0 := Qa11 aY;clear aX aY;replace bf := eq_true bf;replace be := eq_true be;have hnb54 := a5.out;have hnc54 := ay.out;have hnb55 := aN.out;have hnc55 := a7.out;have eK := c5_ ac.out;have hnb57 := a6.out;have hnc57 := aM.out;have d4 := c2_ ah.out;obtain ⟨b8, b4, dX⟩ := Kd.R_slice ai.out;subst dX
            go_wp2_with (first | ((with_reducible refine gate_builtin (b := .append) (xs := #[.tmp 56, .tmp 58]) rfl ?_); at_builtin; refine Kd.S_append k56 (w0 := w) w.heap.size rfl (.tmp 56) (.tmp 58) 24 56 (.agg #[(.slice none 0 0), (.bool false)]) 32 rfl Tryd.underlying24 info56 rfl (by decide) (by omega) aw ao (⟨aq, ((rd_T56 l0_3 aa).f1)⟩ : S56) [.slice b8 aq.length b4, .bool ((rd_T56 l0_3 aa).f1)] (fun k_ => k_ ≠ ak) (fun k_ => some k_ = (.slice b8 aq.length b4 : Value).ownBlock) rfl rfl ?aP (fun k_ hk_ => ((Kd.R_mono (ok' := fun k_ => ((fun k_ => k_ ≠ ak)) k_ ∧ some k_ ≠ (aw : Value).ownBlock) (Kd.R_types (Kd.R_apart' (ai.out) (Kd.S_typed af.out) (by decide)) ah.out (by decide)) (fun k_ hk => ⟨hk.2, hk.1.2⟩))).1 k_ hk_.symm) ?aF ?aO ?aB ?aS ?aL ?_; (case aP => exact k56_mkM _ _ _ (⟨aq, ((rd_T56 l0_3 aa).f1)⟩ : S56) (Kd.R_mono (Kd.R_tight rfl (Kd.R_mono (ok' := fun k_ => ((fun k_ => k_ ≠ ak)) k_ ∧ some k_ ≠ (aw : Value).ownBlock) (Kd.R_types (Kd.R_apart' (ai.out) (Kd.S_typed af.out) (by decide)) ah.out (by decide)) (fun k_ hk => ⟨hk.2, hk.1.2⟩))) (fun _ h_ => h_))); (case aB => exact (bl_ HB.out)); (case aF => exact (fun k_ hk => Kd.freshB (g := ak) (o := .cells #[.slice b8 aq.length b4, .bool ((rd_T56 l0_3 aa).f1)] 56 (0, 0)) (kb_ ah.out) k_ hk)); (case aO => exact (by (with_reducible repeat (first | apply Kd.S_alloc | apply Kd.S_drewN | apply Kd.S_drew)); exact Kd.S_mono af.out (fun k_ hk => ⟨hk.2, fun e_ => hk.1 e_⟩))); (case aS => exact (below_size (bl_ HB.out))); (case aL => have := dm.out; omega); intro v424 w59 ho hb hg hat; rw [← dp.out] at ho; have n0_ := Qa11 (Kd.R_over' (kr_ al.out) (Kd.S_typed (ks_ af.out)) (by decide) hg); have n1_ := Qa11 (blk_grown (g := az) (o := .cells #[.slice A0_0 l0_0.length c0_0, .int .i64 a0_1, .int .i64 a0_2, .slice (some aV) l0_3.length c0_3, .int .i64 a0_4] 26 (0, 0)) (kb_ ad.out) hg (Kd.S_ne af.out ad.out (by decide))); have n2_ := Qa11 (blk_grown (g := aj) (o := .cells #[.slice none 0 0, .int .i64 0, .int .i64 0, .slice none 0 0, .int .i64 0] 26 (0, 0)) (kb_ ag.out) hg (Kd.S_ne af.out ag.out (by decide))); have n3_ := Qa11 (blk_grown (g := ax) (o := .cells #[.slice aE av.length aD, .int .i64 a0_1, .int .i64 a0_2, aw, .int .i64 a0_4] 26 (0, 0)) (kb_ ac.out) hg (Kd.S_ne af.out ac.out (by decide))); have n4_ := Qa11 (blk_grown (g := ak) (o := .cells #[.slice b8 aq.length b4, .bool ((rd_T56 l0_3 aa).f1)] 56 (0, 0)) (kb_ ah.out) hg (Kd.S_away af.out (fun _ hk => hk.2))); have n5_ := Qa11 (hb); have n6_ := Qa11 (ho); clear af; clear ai; replace al := n0_; replace ad := n1_; replace ag := n2_; replace ac := n3_; replace ah := n4_; replace HB := n5_; have cP := n6_; clear n0_ n1_ n2_ n3_ n4_ n5_ n6_; clear ho hb hg hat; obtain ⟨cG, cM, dT⟩ := Kd.S_slice cP.out; subst dT; have e3 := c5_ ac.out))
            go_roundg k2;(case measure => have := HK1.out; have := HK2.out; omega);(case rel => exact ⟨(wrap64 (aa + 1)), (bC), (.slice cG bC.length cM), (by first | rfl | (simp; done) | (simp [*]; done)), H', ⟨by have := HK1.out; have := HK2.out; omega⟩, ⟨by (with_reducible repeat (first | apply Kd.R_alloc | apply Kd.R_drewN | apply Kd.R_drew)); exact Kd.R_mono (Kd.R_far (p := ⟨ax, 3, none⟩) (Kd.R_types al.out ac.out (by decide)) (fun _ hk => hk.2) (.slice cG bC.length cM)) (fun _ hk => trivial)⟩, ⟨by (with_reducible repeat (first | apply Kd.S_alloc | apply Kd.S_drewN | apply Kd.S_drew)); exact Kd.S_mono (Kd.S_far (p := ⟨ax, 3, none⟩) (Kd.S_types cP.out ac.out (by decide)) (fun _ hk => hk.2) (.slice cG bC.length cM)) (fun _ hk => trivial)⟩, ⟨kf_ ad.out⟩, ⟨kf_ ag.out⟩, ⟨kf_ ac.out⟩, ⟨bl_ HB.out⟩⟩)
           rw [if_neg c49] at H;exact absurd H (by simp)
          rw [if_neg c29] at H;exact absurd H (by simp)
         rw [if_neg c28] at H;exact absurd H (by simp)
     rw [if_neg c19] at H;exact absurd H (by simp)
    rw [if_neg c18] at H;have cO : decide (aa < (l0_3.length : Int)) = false := decide_eq_false c18;clear c18;simp only [Option.some.injEq, Prod.mk.injEq] at H;obtain ⟨rfl, rfl, rfl, rfl, rfl⟩ := H;have hnb63 := aR.out;have hnc63 := aU.out;have hnb64 := au.out;have hnc64 := aT.out;have fs := c5_ ad.out;have hnb66 := a5.out;have hnc66 := ay.out;have fy := c5_ ac.out;have eA := c5_ ag.out;obtain ⟨b9, b5, dI⟩ := Kd.S_slice af.out;subst dI;go_wp2;refine bodyPost_ret (results_cell_row rfl _ _ aj 26 #[.slice aE av.length aD, .int .i64 a0_1, .int .i64 a0_2, .slice b9 ao.length b5, .int .i64 a0_4] (0, 0) _ rfl (kf_ ag.out) Tryd.underlying26 rfl (by kernel_rfl)) rfl ?_
    exact ⟨_, _, by first | rfl | (simp [errW_none, errW_some] <;> rfl) | (simp [*, errW_none, errW_some] <;> rfl), by (with_reducible repeat (first | apply Kd.R_alloc | apply Kd.R_drewN | apply Kd.R_drew)); exact Kd.R_mono (Kd.R_far (p := ⟨aj, 4, none⟩) (Kd.R_far (p := ⟨aj, 3, none⟩) (Kd.R_far (p := ⟨aj, 2, none⟩) (Kd.R_far (p := ⟨aj, 1, none⟩) (Kd.R_far (p := ⟨aj, 0, none⟩) (Kd.R_types al.out ag.out (by decide)) (fun _ hk => hk.2) (.slice aE av.length aD)) (fun _ hk => hk.2) (.int .i64 a0_1)) (fun _ hk => hk.2) (.int .i64 a0_2)) (fun _ hk => hk.2) (.slice b9 ao.length b5)) (fun _ hk => hk.2) (.int .i64 a0_4)) (fun _ hk => trivial), by (with_reducible repeat (first | apply Kd.S_alloc | apply Kd.S_drewN | apply Kd.S_drew)); exact Kd.S_mono (Kd.S_far (p := ⟨aj, 4, none⟩) (Kd.S_far (p := ⟨aj, 3, none⟩) (Kd.S_far (p := ⟨aj, 2, none⟩) (Kd.S_far (p := ⟨aj, 1, none⟩) (Kd.S_far (p := ⟨aj, 0, none⟩) (Kd.S_types af.out ag.out (by decide)) (fun _ hk => hk.2) (.slice aE av.length aD)) (fun _ hk => hk.2) (.int .i64 a0_1)) (fun _ hk => hk.2) (.int .i64 a0_2)) (fun _ hk => hk.2) (.slice b9 ao.length b5)) (fun _ hk => hk.2) (.int .i64 a0_4)) (fun _ hk => trivial), bl_ HB.out⟩
end Go.Proofs.YtnalfnoebhmijaaDoor.Pr
namespace Go.Proofs.YtnalfnoebhmijaaDoor.Pr
open Go.RowKit Go.Proofs.YtnalfnoebhmijaaDoorW.PrintWords Go.Proofs.YtnalfnoebhmijaaDoorW.PrintLast Go.Proofs.YtnalfnoebhmijaaDoorW.PrintMore
attribute [local go_sem] max2_int min2_int max_two min_two max_three min_three max_four min_four
set_option linter.unusedVariables false
set_option linter.unusedSimpArgs false
def impl_TblTable_part.f (l0_0 : List (S53)) (a0_1 : Int) (a0_2 : Int) (l0_3 : List (S56)) (a0_4 : Int) (a1 : Int) : Option (Int) := if a1 < a0_1 then (some 0) else (if a1 ≥ (wrap64 ((l0_3.length : Int) - a0_2)) then (some 2) else (some 1))
set_option maxHeartbeats 8000000 in
set_option maxRecDepth 100000 in
theorem impl_TblTable_part.calls (A0_0 : Option Addr) (c0_0 : Nat) (l0_0 : List (S53)) (a0_1 : Int) (a0_2 : Int) (A0_3 : Option Addr) (c0_3 : Nat) (l0_3 : List (S56)) (a0_4 : Int) (a1 : Int) (r : Int) (w : World) (hr0_0 : Kd.C k53 w A0_0 l0_0.length l0_0) (hc0_0 : l0_0.length ≤ c0_0) (hr0_3 : Kd.C k56 w A0_3 l0_3.length l0_3) (hc0_3 : l0_3.length ≤ c0_3) (h : impl_TblTable_part.f l0_0 a0_1 a0_2 l0_3 a0_4 a1 = some r) :
  Calls Tryd.prog 38 #[.agg #[.slice A0_0 l0_0.length c0_0, .int .i64 a0_1, .int .i64 a0_2, .slice A0_3 l0_3.length c0_3, .int .i64 a0_4], .int .i64 a1] w fun e w' => e = .returned (.int .i64 r) ∧ Below w.heap.size w w' := by
 have hu26 := Tryd.underlying26;have HR0_0 := Aside0.mk hr0_0;have HC0_0 := Aside0.mk hc0_0;clear hr0_0 hc0_0;have HR0_3 := Aside0.mk hr0_3;have HC0_3 := Aside0.mk hc0_3;clear hr0_3 hc0_3;have HB := Aside0.mk (Below.refl w.heap.size w);have H := h;unfold impl_TblTable_part.f at H;clear h;by_cases c3 : a1 < a0_1;(·rw [if_pos c3] at H;have ae : decide (a1 < a0_1) = true := decide_eq_true c3;clear c3;obtain rfl := Option.some.inj H;go_enter Tryd.func38, Tryd.ntmps38;(go_wp2_with (first | ((with_reducible refine gate_dst (N := 2) rfl ?_); refine bx_ 2 #[.slice A0_0 l0_0.length c0_0, .int .i64 a0_1, .int .i64 a0_2, .slice A0_3 l0_3.length c0_3, .int .i64 a0_4] 26 ?_; intro ab hg w4 hbox hb; have n0_ := Aside0.mk (below_step (bl_ HB.out) hb); have n1_ := Aside0.mk (hbox); have n2_ := Aside0.mk ((sz_ (below_size (bl_ HB.out)) hg : w.heap.size ≤ ab)); have n3_ := Aside0.mk n2_.out; replace HB := n0_; have aa := n1_; have ad := n2_; have ac := n3_; clear n0_ n1_ n2_ n3_; clear hb hbox hg; have ax := c5_ aa.out)));go_ret;exact ⟨by first | rfl | (simp [errW_none, errW_some] <;> rfl) | (simp [*, errW_none, errW_some] <;> rfl), bl_ HB.out⟩)
 rw [if_neg c3] at H;have ae : decide (a1 < a0_1) = false := decide_eq_false c3;clear c3;by_cases c6 : a1 ≥ (wrap64 ((l0_3.length : Int) - a0_2));(·rw [if_pos c6] at H;have af : decide ((wrap64 ((l0_3.length : Int) - a0_2)) ≤ a1) = true := decide_eq_true c6;clear c6;obtain rfl := Option.some.inj H;go_enter Tryd.func38, Tryd.ntmps38;(go_wp2_with (first | ((with_reducible refine gate_dst (N := 2) rfl ?_); refine bx_ 2 #[.slice A0_0 l0_0.length c0_0, .int .i64 a0_1, .int .i64 a0_2, .slice A0_3 l0_3.length c0_3, .int .i64 a0_4] 26 ?_; intro ab hg w7 hbox hb; have n0_ := Aside0.mk (below_step (bl_ HB.out) hb); have n1_ := Aside0.mk (hbox); have n2_ := Aside0.mk ((sz_ (below_size (bl_ HB.out)) hg : w.heap.size ≤ ab)); have n3_ := Aside0.mk n2_.out; replace HB := n0_; have aa := n1_; have ad := n2_; have ac := n3_; clear n0_ n1_ n2_ n3_; clear hb hbox hg; have aJ := c5_ aa.out)));go_ret;exact ⟨by first | rfl | (simp [errW_none, errW_some] <;> rfl) | (simp [*, errW_none, errW_some] <;> rfl), bl_ HB.out⟩)
 rw [if_neg c6] at H;have af : decide ((wrap64 ((l0_3.length : Int) - a0_2)) ≤ a1) = false := decide_eq_false c6;clear c6;obtain rfl := Option.some.inj H;go_enter Tryd.func38, Tryd.ntmps38;(go_wp2_with (first | ((with_reducible refine gate_dst (N := 2) rfl ?_); refine bx_ 2 #[.slice A0_0 l0_0.length c0_0, .int .i64 a0_1, .int .i64 a0_2, .slice A0_3 l0_3.length c0_3, .int .i64 a0_4] 26 ?_; intro ab hg w9 hbox hb; have n0_ := Aside0.mk (below_step (bl_ HB.out) hb); have n1_ := Aside0.mk (hbox); have n2_ := Aside0.mk ((sz_ (below_size (bl_ HB.out)) hg : w.heap.size ≤ ab)); have n3_ := Aside0.mk n2_.out; replace HB := n0_; have aa := n1_; have ad := n2_; have ac := n3_; clear n0_ n1_ n2_ n3_; clear hb hbox hg; have an := c5_ aa.out)));go_ret;exact ⟨by first | rfl | (simp [errW_none, errW_some] <;> rfl) | (simp [*, errW_none, errW_some] <;> rfl), bl_ HB.out⟩
end Go.Proofs.YtnalfnoebhmijaaDoor.Pr
