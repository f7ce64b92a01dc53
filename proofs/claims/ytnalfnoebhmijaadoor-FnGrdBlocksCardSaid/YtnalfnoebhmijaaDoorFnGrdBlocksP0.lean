/- A part of what the claim of 'FnGrdBlocks' leans on. -/
import Derived.Test.YtnalfnoebhmijaaDoorFnGrdBlocksPr0
import Derived.Test.YtnalfnoebhmijaaDoorFnGrdBlocksShelf
import Derived.Test.YtnalfnoebhmijaaDoorFnGrdBlocksQCut
namespace Go.Proofs.YtnalfnoebhmijaaDoor.Pr
open Go.RowKit Go.Proofs.YtnalfnoebhmijaaDoorW.PrintWords Go.Proofs.YtnalfnoebhmijaaDoorW.PrintLast Go.Proofs.YtnalfnoebhmijaaDoorW.PrintMore
attribute [local go_sem] max2_int min2_int max_two min_two max_three min_three max_four min_four
set_option linter.unusedVariables false
set_option linter.unusedSimpArgs false
def strings_Split.f (a0 a1 : ByteArray) : Option (List ByteArray) := if a1.data.toList = [32] ∧ a0.size < 4294967281 then some (Pure.cutB a0) else none
theorem byte_one (a : ByteArray) (h : a.data.toList = [32]) : a = Pure.blank1 := by
  have : a.data = #[32] := by rw [← Array.toArray_toList (xs := a.data), h]
  cases a with | mk d => simp only at this; subst this; rfl
theorem cutB_length (s : ByteArray) : (Pure.cutB s).length = s.data.toList.count 32 + 1 := by rw [Pure.cutB, List.length_map, Pure.cutL_length]
set_option maxHeartbeats 2000000 in
theorem split_calls (s : ByteArray) (w : World) (hs : s.size < 4294967281) :
    Calls Tryd.prog 57 #[.string s, .string Pure.blank1] w fun e w' =>
      e = .returned (.slice (some ⟨w.heap.size, 0, none⟩) (Pure.cutB s).length (Pure.cutB s).length) ∧ w' = w.alloc (.cells ((Pure.cutB s).map Value.string).toArray 9) := by
  have hN : ((Pure.cutB s).length : Int) = min (if (-1 : Int) < 0 then (Go.Lib.countB s Pure.blank1 : Int) + 1 else -1) ((s.size : Int) + 1) := by
    have h1 := Go.Lib.countB_le Pure.blank1 (by decide) s.size s (Nat.le_refl _)
    rw [cutB_length, Pure.countB_blank] at *
    rw [if_pos (by decide)]; omega
  have hl : (Pure.cutB s).length - 1 = Go.Lib.countB s Pure.blank1 := by rw [cutB_length, Pure.countB_blank]; omega
  have c := Any.strings_genSplit_core { Tryd.lays146 with } (by kernel_rfl) s Pure.blank1 0 (-1) (Pure.cutB s).length w hs (by decide) (Nat.zero_le _)
    (fun x c hx => by have h := Any.strings_Index_one { Tryd.lays146 with } x 32 (w.alloc (.cells c (Tryd.lays146_ren.t 9))); rw [← Go.Lib.index_one] at h; exact h)
    (by have h := Any.strings_Count_one { Tryd.lays146 with } s 32 w; rw [show Go.Lib.countByte s.data.toList 32 = Go.Lib.countB s Pure.blank1 from (Go.Lib.count_one 32 _).symm] at h; exact h) (by decide) (by decide) hN
  rw [hl, Pure.splitB_cut, Go.Lib.cellsOf_full] at c
  have c2 : Calls Tryd.prog 66 #[.string s, .string Pure.blank1, .int .i64 0, .int .i64 (-1)] w fun e w' => e = .returned (.slice (some ⟨w.heap.size, 0, none⟩) (Pure.cutB s).length (Pure.cutB s).length) ∧ w' = w.alloc (.cells ((Pure.cutB s).map Value.string).toArray 9) := c
  have HC := Aside0.mk c2
  clear c c2 hN hl
  go_enter Tryd.func57, Tryd.ntmps57
  go_wp2_with (go_at_call 66; refine HC.out.mono ?_; rintro e w' ⟨rfl, hw⟩; rw [hw])
  go_ret
  exact ⟨rfl, rfl⟩
theorem strings_Split.calls (a0 a1 : ByteArray) (r : List ByteArray) (w : World) (h : strings_Split.f a0 a1 = some r) :
    Calls Tryd.prog 57 #[.string a0, .string a1] w fun e w' => ∃ v0_ : Value, e = .returned (v0_) ∧ Kd.R Kd.string 9 w' w.heap.size (fun _ => True) v0_ r ∧ Below w.heap.size w w' := by
  unfold strings_Split.f at h
  by_cases c : a1.data.toList = [32] ∧ a0.size < 4294967281
  case neg => rw [if_neg c] at h; cases h
  rw [if_pos c] at h
  obtain rfl := Option.some.inj h
  obtain rfl := byte_one a1 c.1
  refine (split_calls a0 w c.2).mono ?_
  rintro e w' ⟨rfl, rfl⟩
  have hm : (Pure.cutB a0).length ≤ maxLen := by
    have h1 := Go.Lib.countB_le Pure.blank1 (by decide) a0.size a0 (Nat.le_refl _)
    rw [Pure.countB_blank] at h1
    rw [cutB_length]; have := c.2; unfold maxLen; omega
  refine ⟨_, rfl, Kd.R_of_own ⟨by simp [encs], .inr ⟨w.heap.size, (Pure.cutB a0).length, ((Pure.cutB a0).map Value.string).toArray, rfl, Nat.le_refl _, blk_new w _, Nat.le_refl _, hm, by simp, ?_⟩⟩ (fun _ _ => trivial), below_alloc (Below.refl _ _) _⟩
  simp only [encs, Nat.mul_one]
  rw [List.take_of_length_le (by simp)]
end Go.Proofs.YtnalfnoebhmijaaDoor.Pr
namespace Go.Proofs.YtnalfnoebhmijaaDoor.Pr
open Go.RowKit Go.Proofs.YtnalfnoebhmijaaDoorW.PrintWords Go.Proofs.YtnalfnoebhmijaaDoorW.PrintLast Go.Proofs.YtnalfnoebhmijaaDoorW.PrintMore
attribute [local go_sem] max2_int min2_int max_two min_two max_three min_three max_four min_four
set_option linter.unusedVariables false
set_option linter.unusedSimpArgs false
def strings_Trim.f (a0 a1 : ByteArray) : Option ByteArray := if a1.data.toList = Pure.letters26 ∧ a0.size ≤ 9223372036854775807 then some ⟨(Go.Lib.trimS a0.data.toList Pure.letters26).toArray⟩ else none
theorem strings_Trim.calls (a0 a1 : ByteArray) (r : ByteArray) (w : World) (h : strings_Trim.f a0 a1 = some r) :
    Calls Tryd.prog 58 #[.string a0, .string a1] w fun e w' => e = .returned (.string r) ∧ Below w.heap.size w w' := by
  unfold strings_Trim.f at h
  by_cases c : a1.data.toList = Pure.letters26 ∧ a0.size ≤ 9223372036854775807
  case neg => rw [if_neg c] at h; cases h
  rw [if_pos c] at h
  obtain rfl := Option.some.inj h
  have e : a1 = ⟨Pure.letters26.toArray⟩ := by
    have : a1.data = Pure.letters26.toArray := by rw [← Array.toArray_toList (xs := a1.data), c.1]
    cases a1 with | mk d => simp only at this; subst this; rfl
  subst e
  exact Any.strings_Trim_laid Tryd.lays160 (by kernel_rfl) a0 ⟨Pure.letters26.toArray⟩ w c.2 (by decide) (ascii_of_all (by decide))
end Go.Proofs.YtnalfnoebhmijaaDoor.Pr
namespace Go.Proofs.YtnalfnoebhmijaaDoor.Pr
open Go.RowKit Go.Proofs.YtnalfnoebhmijaaDoorW.PrintWords Go.Proofs.YtnalfnoebhmijaaDoorW.PrintLast Go.Proofs.YtnalfnoebhmijaaDoorW.PrintMore
attribute [local go_sem] max2_int min2_int max_two min_two max_three min_three max_four min_four
set_option linter.unusedVariables false
set_option linter.unusedSimpArgs false
def impl_TxtOk.l0 : Nat → ByteArray → List ByteArray → Int → Int → Option (Bool)
  | 0, _, _, _, _ => none
  | k + 1, x0, x8, x9, x10 => if x10 < x9 then (if 0 ≤ x10 then (if x10 < (x8.length : Int) then (if (rdOf ByteArray.empty x8 x10).toList = ([] : List UInt8) then (some false) else ((strings_Trim.f (rdOf ByteArray.empty x8 x10) (⟨#[97, 98, 99, 100, 101, 102, 103, 104, 105, 106, 107, 108, 109, 110, 111, 112, 113, 114, 115, 116, 117, 118, 119, 120, 121, 122]⟩ : ByteArray)).bind fun t388 => (if t388.toList = ([] : List UInt8) then (impl_TxtOk.l0 k x0 x8 x9 (wrap64 (x10 + 1))) else (some false)))) else (none)) else (none)) else (some (decide ((x0.size : Int) ≤ 30)))
def impl_TxtOk.f (k : Nat) (a0 : ByteArray) : Option (Bool) := if a0.toList = ([] : List UInt8) then (some true) else ((strings_Split.f a0 (⟨#[32]⟩ : ByteArray)).bind fun t384 => (impl_TxtOk.l0 k a0 t384 (t384.length : Int) 0))
set_option maxHeartbeats 8000000 in
set_option maxRecDepth 100000 in
theorem impl_TxtOk.calls (k : Nat) (a0 : ByteArray) (r : Bool) (w : World) (h : impl_TxtOk.f k a0 = some r) :
  Calls Tryd.prog 37 #[.string a0] w fun e w' => e = .returned (.bool r) ∧ Below w.heap.size w w' := by
 have HB := Aside0.mk (Below.refl w.heap.size w);have H := h;unfold impl_TxtOk.f at H;clear h;by_cases c2 : a0.toList = ([] : List UInt8);(·rw [if_pos c2] at H;have aj : (a0.toList == ([] : List UInt8)) = true := beq_iff_eq.mpr c2;have ai : (a0.toList != ([] : List UInt8)) = false := bne_eq_false_iff_eq.mpr c2;clear c2;obtain rfl := Option.some.inj H;go_enter Tryd.func37, Tryd.ntmps37;go_wp2;go_ret;exact ⟨by first | rfl | (simp [errW_none, errW_some] <;> rfl) | (simp [*, errW_none, errW_some] <;> rfl), bl_ HB.out⟩)
 rw [if_neg c2] at H;have aj : (a0.toList == ([] : List UInt8)) = false := beq_eq_false_iff_ne.mpr c2;have ai : (a0.toList != ([] : List UInt8)) = true := bne_iff_ne.mpr c2;obtain ⟨t384, A3, H⟩ := ob_ H;(try dsimp only at H);have H' := Aside0.mk H;clear H;go_enter Tryd.func37, Tryd.ntmps37;(go_wp2_with (first | ((with_reducible refine gate_callee (f := 57) rfl ?_); refine gl_ (some 8) Tryd.func57 #[.string a0, .string (⟨#[32]⟩ : ByteArray)] ?_; (with_reducible refine (strings_Split.calls a0 (⟨#[32]⟩ : ByteArray) t384 _ A3.out).mono ?_); rintro e w4 ⟨v385, rfl, ho0, hb⟩; refine ⟨_, rfl, ?_⟩; have n0_ := Aside0.mk (Kd.R_lower ho0 (below_size (bl_ HB.out))); have n1_ := Aside0.mk (below_step (bl_ HB.out) hb); have ah := n0_; replace HB := n1_; clear n0_ n1_; (try clear hb hk hi); (try clear ho0); obtain ⟨Ao5, co5, eo5⟩ := Kd.R_slice ah.out; subst eo5)));go_loopg [10] k (fun kq v10 w' => ∃ (aa : Int), v10 = .int .i64 aa ∧ Aside0 (impl_TxtOk.l0 kq a0 t384 (t384.length : Int) aa = some r) ∧ Aside0 (kq ≤ k) ∧ Aside0 (Kd.R Kd.string 9 w' w.heap.size (fun _ => True) (.slice Ao5 t384.length co5) t384) ∧ Aside0 (Below w.heap.size w w'));(case atStart => exact ⟨(0), (by first | rfl | (simp; done) | (simp [*]; done)), H', ⟨Nat.le_refl _⟩, ⟨kr_ ah.out⟩, ⟨bl_ HB.out⟩⟩)
 case round =>
  clear H';(try clear c2);(try clear aj);(try clear ai);(try clear p2);(try clear c3);(try clear c5);obtain ⟨aa, rfl, HA, HK1, ad, HB⟩ := hrel
  cases gk with
   | zero => exact absurd HA.out (by simp [impl_TxtOk.l0])
   | succ k1 =>
    have H := HA.out;clear HA;simp only [impl_TxtOk.l0] at H;by_cases c6 : aa < (t384.length : Int)
    ·rw [if_pos c6] at H;have ap : decide (aa < (t384.length : Int)) = true := decide_eq_true c6;clear c6;by_cases c7 : 0 ≤ aa
     ·rw [if_pos c7] at H;have c7b0 : decide (0 ≤ aa) = true := decide_eq_true c7;clear c7;by_cases c8 : aa < (t384.length : Int)
      ·rw [if_pos c8] at H;have c8b0 : decide (aa < (t384.length : Int)) = true := decide_eq_true c8;clear c8;by_cases c9 : (rdOf ByteArray.empty t384 aa).toList = ([] : List UInt8);(·rw [if_pos c9] at H;have ao : ((rdOf ByteArray.empty t384 aa).toList == ([] : List UInt8)) = true := beq_iff_eq.mpr c9;have an : ((rdOf ByteArray.empty t384 aa).toList != ([] : List UInt8)) = false := bne_eq_false_iff_eq.mpr c9;clear c9;obtain rfl := Option.some.inj H;have ac : 0 ≤ (aa : Int) := dq_;have ab : aa < (t384.length : Int) := dq_;obtain ⟨ag, ae, af⟩ := Kd.at_string (Kd.R_reads' ad.out).2.2 aa ac ab;cases ae;replace ac := eq_true ac;replace ab := eq_true ab;go_wp2;go_ret;exact ⟨by first | rfl | (simp [errW_none, errW_some] <;> rfl) | (simp [*, errW_none, errW_some] <;> rfl), bl_ HB.out⟩)
       rw [if_neg c9] at H;have ao : ((rdOf ByteArray.empty t384 aa).toList == ([] : List UInt8)) = false := beq_eq_false_iff_ne.mpr c9;have an : ((rdOf ByteArray.empty t384 aa).toList != ([] : List UInt8)) = true := bne_iff_ne.mpr c9;obtain ⟨t388, A10, H⟩ := ob_ H;(try dsimp only at H);by_cases c11 : t388.toList = ([] : List UInt8);(·rw [if_pos c11] at H;have am : (t388.toList == ([] : List UInt8)) = true := beq_iff_eq.mpr c11;have al : (t388.toList != ([] : List UInt8)) = false := bne_eq_false_iff_eq.mpr c11;clear c11;have H' := Aside0.mk H;clear H;have ac : 0 ≤ (aa : Int) := dq_;have ab : aa < (t384.length : Int) := dq_;obtain ⟨ag, ae, af⟩ := Kd.at_string (Kd.R_reads' ad.out).2.2 aa ac ab;cases ae;replace ac := eq_true ac;replace ab := eq_true ab;(go_wp2_with (first | (go_at_call 58; (with_reducible refine (strings_Trim.calls (rdOf ByteArray.empty t384 aa) (⟨#[97, 98, 99, 100, 101, 102, 103, 104, 105, 106, 107, 108, 109, 110, 111, 112, 113, 114, 115, 116, 117, 118, 119, 120, 121, 122]⟩ : ByteArray) t388 _ A10.out).mono ?_); rintro e w12 ⟨rfl, hb⟩; have n0_ := Aside0.mk (Kd.R_below (kr_ ad.out) hb); have n1_ := Aside0.mk (below_step (bl_ HB.out) hb); replace ad := n0_; replace HB := n1_; clear n0_ n1_; (try clear hb hk hi))));go_roundg k1;(case measure => have := HK1.out; omega);(case rel => exact ⟨(wrap64 (aa + 1)), (by first | rfl | (simp; done) | (simp [*]; done)), H', ⟨by have := HK1.out; omega⟩, ⟨kr_ ad.out⟩, ⟨bl_ HB.out⟩⟩))
       rw [if_neg c11] at H;have am : (t388.toList == ([] : List UInt8)) = false := beq_eq_false_iff_ne.mpr c11;have al : (t388.toList != ([] : List UInt8)) = true := bne_iff_ne.mpr c11;obtain rfl := Option.some.inj H;have ac : 0 ≤ (aa : Int) := dq_;have ab : aa < (t384.length : Int) := dq_;obtain ⟨ag, ae, af⟩ := Kd.at_string (Kd.R_reads' ad.out).2.2 aa ac ab;cases ae;replace ac := eq_true ac;replace ab := eq_true ab;(go_wp2_with (first | (go_at_call 58; (with_reducible refine (strings_Trim.calls (rdOf ByteArray.empty t384 aa) (⟨#[97, 98, 99, 100, 101, 102, 103, 104, 105, 106, 107, 108, 109, 110, 111, 112, 113, 114, 115, 116, 117, 118, 119, 120, 121, 122]⟩ : ByteArray) t388 _ A10.out).mono ?_); rintro e w13 ⟨rfl, hb⟩; have n0_ := Aside0.mk (Kd.R_below (kr_ ad.out) hb); have n1_ := Aside0.mk (below_step (bl_ HB.out) hb); replace ad := n0_; replace HB := n1_; clear n0_ n1_; (try clear hb hk hi))));go_ret;exact ⟨by first | rfl | (simp [errW_none, errW_some] <;> rfl) | (simp [*, errW_none, errW_some] <;> rfl), bl_ HB.out⟩
      rw [if_neg c8] at H;exact absurd H (by simp)
     rw [if_neg c7] at H;exact absurd H (by simp)
    rw [if_neg c6] at H;have ap : decide (aa < (t384.length : Int)) = false := decide_eq_false c6;clear c6;obtain rfl := Option.some.inj H;go_wp2;go_ret;exact ⟨by first | rfl | (simp [errW_none, errW_some] <;> rfl) | (simp [*, errW_none, errW_some] <;> rfl), bl_ HB.out⟩
end Go.Proofs.YtnalfnoebhmijaaDoor.Pr
namespace Go.Proofs.YtnalfnoebhmijaaDoor.Pr
open Go.RowKit Go.Proofs.YtnalfnoebhmijaaDoorW.PrintWords Go.Proofs.YtnalfnoebhmijaaDoorW.PrintLast Go.Proofs.YtnalfnoebhmijaaDoorW.PrintMore
attribute [local go_sem] max2_int min2_int max_two min_two max_three min_three max_four min_four
set_option linter.unusedVariables false
set_option linter.unusedSimpArgs false
def laws_pwOk.f (k : Nat)  : Option (Bool) := (impl_TxtOk.f k (⟨#[97, 98, 32, 99]⟩ : ByteArray)).bind fun t404 => (some t404)
set_option maxHeartbeats 8000000 in
set_option maxRecDepth 100000 in
theorem laws_pwOk.calls (k : Nat)  (r : Bool) (w : World) (h : laws_pwOk.f k  = some r) :
    Calls Tryd.prog 10 #[] w fun e w' => e = .returned (.bool r) ∧ Below w.heap.size w w' := by
  have HB := Aside0.mk (Below.refl w.heap.size w)
  have H : ((impl_TxtOk.f k (⟨#[97, 98, 32, 99]⟩ : ByteArray)).bind fun t404 => (some t404)) = some r := h
  clear h
  replace H := Option.bind_eq_some_iff.mp H
  obtain ⟨t404, A10, H⟩ := H
  replace H : (some t404) = some r := H
  have A1 := Aside0.mk A10
  clear A10
  obtain rfl := Option.some.inj H
  go_enter Tryd.func10, Tryd.ntmps10
  go_wp2_with (first | ((with_reducible refine gate_callee (f := 37) rfl ?_); refine goesL_ (some 1) rfl rfl Tryd.func37 (by kernel_rfl) rfl #[.string (⟨#[97, 98, 32, 99]⟩ : ByteArray)] rfl (by (try simp only [List.map_toArray, List.map_cons, List.map_nil]); first | done | rfl | (simp only [List.length_drop, List.length_take]; rfl)) ?_; (with_reducible refine (impl_TxtOk.calls k (⟨#[97, 98, 32, 99]⟩ : ByteArray) t404 _ A1.out).mono ?_); rintro e w2 ⟨rfl, hb⟩; refine ⟨_, rfl, ?_⟩; have n0_ := Aside0.mk (below_step (by repeat (first | (with_reducible first | exact HB.out | apply below_alloc | apply pw_below_drewN | apply below_drew1) | exact HB.out)) hb); clear HB; have HB := n0_; clear n0_; (try clear hb); (try clear hb2); (try clear hk); (try clear hi)))
  go_ret
  exact ⟨by first | rfl | (simp [errW_none, errW_some] <;> rfl) | (simp [*, errW_none, errW_some] <;> rfl), by repeat (first | (with_reducible first | exact HB.out | apply below_alloc | apply pw_below_drewN | apply below_drew1) | exact HB.out)⟩
end Go.Proofs.YtnalfnoebhmijaaDoor.Pr
namespace Go.Proofs.YtnalfnoebhmijaaDoor.Pr
open Go.RowKit Go.Proofs.YtnalfnoebhmijaaDoorW.PrintWords Go.Proofs.YtnalfnoebhmijaaDoorW.PrintLast Go.Proofs.YtnalfnoebhmijaaDoorW.PrintMore
attribute [local go_sem] max2_int min2_int max_two min_two max_three min_three max_four min_four
set_option linter.unusedVariables false
set_option linter.unusedSimpArgs false
def impl_GrdCell_meets.f (a0_0 : Int) (a0_1 : Int) (a0_2 : Int) (a0_3 : Int) (a0_4 : Int) (a1_0 : Int) (a1_1 : Int) (a1_2 : Int) (a1_3 : Int) (a1_4 : Int) : Option (Bool) := if a0_0 < (wrap64 (a1_0 + a1_2)) then (if a1_0 < (wrap64 (a0_0 + a0_2)) then (if a0_1 < (wrap64 (a1_1 + a1_3)) then (some (decide (a1_1 < (wrap64 (a0_1 + a0_3))))) else (some false)) else (some false)) else (some false)
abbrev qa40 := @Aside0.mk
set_option maxHeartbeats 8000000 in
set_option maxRecDepth 100000 in
theorem impl_GrdCell_meets.calls (a0_0 : Int) (a0_1 : Int) (a0_2 : Int) (a0_3 : Int) (a0_4 : Int) (a1_0 : Int) (a1_1 : Int) (a1_2 : Int) (a1_3 : Int) (a1_4 : Int) (r : Bool) (w : World) (h : impl_GrdCell_meets.f a0_0 a0_1 a0_2 a0_3 a0_4 a1_0 a1_1 a1_2 a1_3 a1_4 = some r) :
  Calls Tryd.prog 40 #[.agg #[.int .i64 a0_0, .int .i64 a0_1, .int .i64 a0_2, .int .i64 a0_3, .int .i64 a0_4], .agg #[.int .i64 a1_0, .int .i64 a1_1, .int .i64 a1_2, .int .i64 a1_3, .int .i64 a1_4]] w fun e w' => e = .returned (.bool r) ∧ Below w.heap.size w w' := by
 have hu37 := Tryd.underlying37;have HB := qa40 (Below.refl w.heap.size w);have H := h;unfold impl_GrdCell_meets.f at H;clear h;by_cases c3 : a0_0 < (wrap64 (a1_0 + a1_2))
 ·rw [if_pos c3] at H;have am : decide (a0_0 < (wrap64 (a1_0 + a1_2))) = true := decide_eq_true c3;clear c3;by_cases c4 : a1_0 < (wrap64 (a0_0 + a0_2))
  ·rw [if_pos c4] at H;have al : decide (a1_0 < (wrap64 (a0_0 + a0_2))) = true := decide_eq_true c4;clear c4;by_cases c5 : a0_1 < (wrap64 (a1_1 + a1_3))
   ·rw [if_pos c5] at H;have ak : decide (a0_1 < (wrap64 (a1_1 + a1_3))) = true := decide_eq_true c5;clear c5;obtain rfl := Option.some.inj H;go_enter Tryd.func40, Tryd.ntmps40;(go_wp2_with (first | ((with_reducible refine gate_dst (N := 2) rfl ?_); refine bx_ 2 #[.int .i64 a0_0, .int .i64 a0_1, .int .i64 a0_2, .int .i64 a0_3, .int .i64 a0_4] 37 ?_; intro ac hg w6 hbox hb; have n0_ := qa40 (below_step (bl_ HB.out) hb); have n1_ := qa40 (hbox); have n2_ := qa40 ((sz_ (below_size (bl_ HB.out)) hg : w.heap.size ≤ ac)); have n3_ := qa40 n2_.out; replace HB := n0_; have aa := n1_; have ai := n2_; have ad := n3_; clear n0_ n1_ n2_ n3_; clear hb hbox hg) | ((with_reducible refine gate_dst (N := 3) rfl ?_); refine bx_ 3 #[.int .i64 a1_0, .int .i64 a1_1, .int .i64 a1_2, .int .i64 a1_3, .int .i64 a1_4] 37 ?_; intro ag hg w7 hbox hb; have n0_ := qa40 (blk_below (g := ac) (kb_ aa.out) hb); have n1_ := qa40 (below_step (bl_ HB.out) hb); have n2_ := qa40 (hbox); have n3_ := qa40 ((sz_ (below_size (bl_ HB.out)) hg : w.heap.size ≤ ag)); have n4_ := qa40 n3_.out; have n5_ := qa40 ((nl_ (blk_lt (g := ac) (kb_ aa.out)) hg : ac ≠ ag)); have n6_ := qa40 (Ne.symm n5_.out); replace aa := n0_; replace HB := n1_; have ab := n2_; have aj := n3_; have ah := n4_; have ae := n5_; have af := n6_; clear n0_ n1_ n2_ n3_ n4_ n5_ n6_; clear hb hbox hg; have hnb8 := ae.out; have hnc8 := af.out; have bC := c5_ aa.out; have bn := c5_ ab.out)));go_ret
    exact ⟨by first | rfl | (simp [errW_none, errW_some] <;> rfl) | (simp [*, errW_none, errW_some] <;> rfl), bl_ HB.out⟩
   rw [if_neg c5] at H;have ak : decide (a0_1 < (wrap64 (a1_1 + a1_3))) = false := decide_eq_false c5;clear c5;obtain rfl := Option.some.inj H;go_enter Tryd.func40, Tryd.ntmps40;(go_wp2_with (first | ((with_reducible refine gate_dst (N := 2) rfl ?_); refine bx_ 2 #[.int .i64 a0_0, .int .i64 a0_1, .int .i64 a0_2, .int .i64 a0_3, .int .i64 a0_4] 37 ?_; intro ac hg w11 hbox hb; have n0_ := qa40 (below_step (bl_ HB.out) hb); have n1_ := qa40 (hbox); have n2_ := qa40 ((sz_ (below_size (bl_ HB.out)) hg : w.heap.size ≤ ac)); have n3_ := qa40 n2_.out; replace HB := n0_; have aa := n1_; have ai := n2_; have ad := n3_; clear n0_ n1_ n2_ n3_; clear hb hbox hg) | ((with_reducible refine gate_dst (N := 3) rfl ?_); refine bx_ 3 #[.int .i64 a1_0, .int .i64 a1_1, .int .i64 a1_2, .int .i64 a1_3, .int .i64 a1_4] 37 ?_; intro ag hg w12 hbox hb; have n0_ := qa40 (blk_below (g := ac) (kb_ aa.out) hb); have n1_ := qa40 (below_step (bl_ HB.out) hb); have n2_ := qa40 (hbox); have n3_ := qa40 ((sz_ (below_size (bl_ HB.out)) hg : w.heap.size ≤ ag)); have n4_ := qa40 n3_.out; have n5_ := qa40 ((nl_ (blk_lt (g := ac) (kb_ aa.out)) hg : ac ≠ ag)); have n6_ := qa40 (Ne.symm n5_.out); replace aa := n0_; replace HB := n1_; have ab := n2_; have aj := n3_; have ah := n4_; have ae := n5_; have af := n6_; clear n0_ n1_ n2_ n3_ n4_ n5_ n6_; clear hb hbox hg; have hnb13 := ae.out; have hnc13 := af.out; have aF := c5_ aa.out; have bf := c5_ ab.out)));go_ret
   exact ⟨by first | rfl | (simp [errW_none, errW_some] <;> rfl) | (simp [*, errW_none, errW_some] <;> rfl), bl_ HB.out⟩
  rw [if_neg c4] at H;have al : decide (a1_0 < (wrap64 (a0_0 + a0_2))) = false := decide_eq_false c4;clear c4;obtain rfl := Option.some.inj H;go_enter Tryd.func40, Tryd.ntmps40;(go_wp2_with (first | ((with_reducible refine gate_dst (N := 2) rfl ?_); refine bx_ 2 #[.int .i64 a0_0, .int .i64 a0_1, .int .i64 a0_2, .int .i64 a0_3, .int .i64 a0_4] 37 ?_; intro ac hg w16 hbox hb; have n0_ := qa40 (below_step (bl_ HB.out) hb); have n1_ := qa40 (hbox); have n2_ := qa40 ((sz_ (below_size (bl_ HB.out)) hg : w.heap.size ≤ ac)); have n3_ := qa40 n2_.out; replace HB := n0_; have aa := n1_; have ai := n2_; have ad := n3_; clear n0_ n1_ n2_ n3_; clear hb hbox hg) | ((with_reducible refine gate_dst (N := 3) rfl ?_); refine bx_ 3 #[.int .i64 a1_0, .int .i64 a1_1, .int .i64 a1_2, .int .i64 a1_3, .int .i64 a1_4] 37 ?_; intro ag hg w17 hbox hb; have n0_ := qa40 (blk_below (g := ac) (kb_ aa.out) hb); have n1_ := qa40 (below_step (bl_ HB.out) hb); have n2_ := qa40 (hbox); have n3_ := qa40 ((sz_ (below_size (bl_ HB.out)) hg : w.heap.size ≤ ag)); have n4_ := qa40 n3_.out; have n5_ := qa40 ((nl_ (blk_lt (g := ac) (kb_ aa.out)) hg : ac ≠ ag)); have n6_ := qa40 (Ne.symm n5_.out); replace aa := n0_; replace HB := n1_; have ab := n2_; have aj := n3_; have ah := n4_; have ae := n5_; have af := n6_; clear n0_ n1_ n2_ n3_ n4_ n5_ n6_; clear hb hbox hg; have hnb18 := ae.out; have hnc18 := af.out; have a5 := c5_ aa.out; have aE := c5_ ab.out)));go_ret
  exact ⟨by first | rfl | (simp [errW_none, errW_some] <;> rfl) | (simp [*, errW_none, errW_some] <;> rfl), bl_ HB.out⟩
 rw [if_neg c3] at H;have am : decide (a0_0 < (wrap64 (a1_0 + a1_2))) = false := decide_eq_false c3;clear c3;obtain rfl := Option.some.inj H;go_enter Tryd.func40, Tryd.ntmps40;(go_wp2_with (first | ((with_reducible refine gate_dst (N := 2) rfl ?_); refine bx_ 2 #[.int .i64 a0_0, .int .i64 a0_1, .int .i64 a0_2, .int .i64 a0_3, .int .i64 a0_4] 37 ?_; intro ac hg w21 hbox hb; have n0_ := qa40 (below_step (bl_ HB.out) hb); have n1_ := qa40 (hbox); have n2_ := qa40 ((sz_ (below_size (bl_ HB.out)) hg : w.heap.size ≤ ac)); have n3_ := qa40 n2_.out; replace HB := n0_; have aa := n1_; have ai := n2_; have ad := n3_; clear n0_ n1_ n2_ n3_; clear hb hbox hg) | ((with_reducible refine gate_dst (N := 3) rfl ?_); refine bx_ 3 #[.int .i64 a1_0, .int .i64 a1_1, .int .i64 a1_2, .int .i64 a1_3, .int .i64 a1_4] 37 ?_; intro ag hg w22 hbox hb; have n0_ := qa40 (blk_below (g := ac) (kb_ aa.out) hb); have n1_ := qa40 (below_step (bl_ HB.out) hb); have n2_ := qa40 (hbox); have n3_ := qa40 ((sz_ (below_size (bl_ HB.out)) hg : w.heap.size ≤ ag)); have n4_ := qa40 n3_.out; have n5_ := qa40 ((nl_ (blk_lt (g := ac) (kb_ aa.out)) hg : ac ≠ ag)); have n6_ := qa40 (Ne.symm n5_.out); replace aa := n0_; replace HB := n1_; have ab := n2_; have aj := n3_; have ah := n4_; have ae := n5_; have af := n6_; clear n0_ n1_ n2_ n3_ n4_ n5_ n6_; clear hb hbox hg; have hnb23 := ae.out; have hnc23 := af.out; have bq := c5_ aa.out; have aG := c5_ ab.out)));go_ret
 exact ⟨by first | rfl | (simp [errW_none, errW_some] <;> rfl) | (simp [*, errW_none, errW_some] <;> rfl), bl_ HB.out⟩
end Go.Proofs.YtnalfnoebhmijaaDoor.Pr
namespace Go.Proofs.YtnalfnoebhmijaaDoor.Pr
open Go.RowKit Go.Proofs.YtnalfnoebhmijaaDoorW.PrintWords Go.Proofs.YtnalfnoebhmijaaDoorW.PrintLast Go.Proofs.YtnalfnoebhmijaaDoorW.PrintMore
attribute [local go_sem] max2_int min2_int max_two min_two max_three min_three max_four min_four
set_option linter.unusedVariables false
set_option linter.unusedSimpArgs false
def grdV (x : S37) : Value := .agg #[.int .i64 x.f0, .int .i64 x.f1, .int .i64 x.f2, .int .i64 x.f3, .int .i64 x.f4]
set_option maxHeartbeats 4000000 in
theorem idxGrd_calls (p : S37 → Bool) (g : Nat) (fst lb : Array Value) (eg : ∀ args w, (callFunc g args).run Tryd.prog w = .ok (.enter g args) w) (A : Option Addr) (c : Nat) (l : List S37) (w : World) (hr : Kd.C k37 w A l.length l) (hc : l.length ≤ c)
    (hp : ∀ (W : World) (x : S37), x ∈ l → Below w.heap.size w W → Calls Tryd.prog g (fst.push (grdV x) ++ lb) W fun e w' => e = .returned (.bool (p x)) ∧ Below W.heap.size W w') :
    Calls Tryd.prog 46 #[.slice A l.length c, .func (.func g) fst lb] w fun e w' => e = .returned (.int .i64 (idxOf p l)) ∧ Below w.heap.size w w' := by
  have HR := Aside0.mk hr
  have HP := Aside0.mk hp
  have hm := Kd.C_max hr
  clear hr hp
  go_enter Tryd.func46, Tryd.ntmps46
  go_wp2
  go_loopg [5, 8] l.length (fun gk v5 v8 wr => ∃ k : Nat, k ≤ l.length ∧ l.length - k ≤ gk ∧ v8 = .int .i64 k ∧ Aside0 (Below w.heap.size w wr) ∧ Aside0 (∀ j x, j < k → l[j]? = some x → p x = false))
  case atStart => exact ⟨0, Nat.zero_le _, by omega, rfl, ⟨Below.refl _ w⟩, ⟨fun j x hj => absurd hj (Nat.not_lt_zero _)⟩⟩
  case round =>
    obtain ⟨k, hk, hg, rfl, BW, HN⟩ := hrel
    by_cases hlt : k < l.length
    · have hltz : (k : Int) < (l.length : Int) := by omega
      obtain ⟨ad, eA, hx0, hx1, hx2, hx3, hx4⟩ := at_T37 HR.out (k : Int) (by omega) hltz
      cases eA
      replace hx0 := (BW.out.cell (World.block_lt_of_cell? w _ hx0)).trans hx0
      replace hx1 := (BW.out.cell (World.block_lt_of_cell? w _ hx1)).trans hx1
      replace hx2 := (BW.out.cell (World.block_lt_of_cell? w _ hx2)).trans hx2
      replace hx3 := (BW.out.cell (World.block_lt_of_cell? w _ hx3)).trans hx3
      replace hx4 := (BW.out.cell (World.block_lt_of_cell? w _ hx4)).trans hx4
      rw [Int.toNat_natCast] at hx0 hx1 hx2 hx3 hx4
      have hmem := getD_at l k z37 hlt
      have hrd : rd_T37 l (k : Int) = l.getD (k : Int).toNat z37 := rfl
      rw [← hrd] at hmem
      have hcall := HP.out wr (rd_T37 l k) (List.mem_of_getElem? hmem) BW.out
      unfold grdV at hcall
      have HM := Aside0.mk hmem
      clear hmem hrd
      cases hq : p (rd_T37 l k) with
      | true =>
        rw [hq] at hcall
        have HQ := Aside0.mk hq
        clear hq
        go_wp2_with ((with_reducible refine hcall.mono ?_); rintro e w' ⟨rfl, hb'⟩)
        go_ret
        exact ⟨by rw [idxOf_hit p l k _ HM.out HQ.out HN.out]; rfl, below_then BW.out BW.out.size hb'⟩
      | false =>
        rw [hq] at hcall
        have HQ := Aside0.mk hq
        clear hq
        go_wp2_with ((with_reducible refine hcall.mono ?_); rintro e w' ⟨rfl, hb'⟩)
        go_roundg (l.length - (k + 1))
        case measure => omega
        case rel =>
          refine ⟨k + 1, by omega, by omega, by go_num, ⟨below_then BW.out BW.out.size hb'⟩, ⟨fun j y hj hy => ?_⟩⟩
          by_cases e : j = k
          · subst e
            rw [HM.out] at hy; cases hy; exact HQ.out
          · exact HN.out j y (by omega) hy
    · have hltz : ¬ (k : Int) < (l.length : Int) := by omega
      have : k = l.length := by omega
      subst this
      go_wp2
      go_ret
      exact ⟨by rw [idxOf_miss p l HN.out]; rfl, BW.out⟩
end Go.Proofs.YtnalfnoebhmijaaDoor.Pr
namespace Go.Proofs.YtnalfnoebhmijaaDoor.Pr
open Go.RowKit Go.Proofs.YtnalfnoebhmijaaDoorW.PrintWords Go.Proofs.YtnalfnoebhmijaaDoorW.PrintLast Go.Proofs.YtnalfnoebhmijaaDoorW.PrintMore
attribute [local go_sem] max2_int min2_int max_two min_two max_three min_three max_four min_four
set_option linter.unusedVariables false
set_option linter.unusedSimpArgs false
set_option maxHeartbeats 2000000 in
theorem contGrd_calls (p : S37 → Bool) (g : Nat) (fst lb : Array Value) (eg : ∀ args w, (callFunc g args).run Tryd.prog w = .ok (.enter g args) w) (A : Option Addr) (c : Nat) (l : List S37) (w : World) (hr : Kd.C k37 w A l.length l) (hc : l.length ≤ c)
    (hp : ∀ (W : World) (x : S37), x ∈ l → Below w.heap.size w W → Calls Tryd.prog g (fst.push (grdV x) ++ lb) W fun e w' => e = .returned (.bool (p x)) ∧ Below W.heap.size W w') :
    Calls Tryd.prog 39 #[.slice A l.length c, .func (.func g) fst lb] w fun e w' => e = .returned (.bool (l.any p)) ∧ Below w.heap.size w w' := by
  have hcall := fun W (hb : W = w) => idxGrd_calls p g fst lb eg A c l W (hb ▸ hr) hc (hb ▸ hp)
  have HC := Aside0.mk hcall
  clear hcall hr hp hc
  have hi := idxOf_range p l
  have hd : decide (0 ≤ idxOf p l) = l.any p := by
    cases h : l.any p
    · apply decide_eq_false; intro q; have := hi.2.2.mp q; rw [h] at this; cases this
    · exact decide_eq_true (hi.2.2.mpr h)
  have HD := Aside0.mk hd
  clear hd hi
  go_enter Tryd.func39, Tryd.ntmps39
  go_wp2_with (go_at_call 46; refine (HC.out _ rfl).mono ?_; rintro e w' ⟨rfl, hb'⟩)
  go_ret
  exact ⟨by rw [← HD.out]; rfl, hb'⟩
def meetsB (c d : S37) : Bool := decide (c.f0 < wrap64 (d.f0 + d.f2)) && (decide (d.f0 < wrap64 (c.f0 + c.f2)) && (decide (c.f1 < wrap64 (d.f1 + d.f3)) && decide (d.f1 < wrap64 (c.f1 + c.f3))))
theorem meetsB_eq (c d : S37) : impl_GrdCell_meets.f c.f0 c.f1 c.f2 c.f3 c.f4 d.f0 d.f1 d.f2 d.f3 d.f4 = some (meetsB c d) := by
  unfold impl_GrdCell_meets.f meetsB
  by_cases h1 : c.f0 < wrap64 (d.f0 + d.f2) <;> by_cases h2 : d.f0 < wrap64 (c.f0 + c.f2) <;> by_cases h3 : c.f1 < wrap64 (d.f1 + d.f3) <;> simp [h1, h2, h3]
def impl_GrdCell_39.f (l0 : List S37) (a1_0 a1_1 a1_2 a1_3 a1_4 : Int) : Option Bool := some (l0.any (meetsB ⟨a1_0, a1_1, a1_2, a1_3, a1_4⟩))
theorem impl_GrdCell_39.calls (A0 : Option Addr) (c0 : Nat) (l0 : List S37) (a1_0 a1_1 a1_2 a1_3 a1_4 : Int) (r : Bool) (w : World) (hr0 : Kd.C k37 w A0 l0.length l0) (hc0 : l0.length ≤ c0) (h : impl_GrdCell_39.f l0 a1_0 a1_1 a1_2 a1_3 a1_4 = some r) :
    Calls Tryd.prog 39 #[.slice A0 l0.length c0, .func (.func 40) #[.agg #[.int .i64 a1_0, .int .i64 a1_1, .int .i64 a1_2, .int .i64 a1_3, .int .i64 a1_4]] #[]] w fun e w' => e = .returned (.bool r) ∧ Below w.heap.size w w' := by
  obtain rfl := Option.some.inj h
  refine contGrd_calls (meetsB ⟨a1_0, a1_1, a1_2, a1_3, a1_4⟩) 40 _ _ (enters_ Tryd.func40 (by kernel_rfl) rfl) A0 c0 l0 w hr0 hc0 (fun W x _ _ => ?_)
  exact impl_GrdCell_meets.calls a1_0 a1_1 a1_2 a1_3 a1_4 x.f0 x.f1 x.f2 x.f3 x.f4 _ W (meetsB_eq ⟨a1_0, a1_1, a1_2, a1_3, a1_4⟩ x)
end Go.Proofs.YtnalfnoebhmijaaDoor.Pr
namespace Go.Proofs.YtnalfnoebhmijaaDoor.Pr
open Go.RowKit Go.Proofs.YtnalfnoebhmijaaDoorW.PrintWords Go.Proofs.YtnalfnoebhmijaaDoorW.PrintLast Go.Proofs.YtnalfnoebhmijaaDoorW.PrintMore
attribute [local go_sem] max2_int min2_int max_two min_two max_three min_three max_four min_four
set_option linter.unusedVariables false
set_option linter.unusedSimpArgs false
def impl_in.f (a0 : Int) (a1 : Int) (a2 : Int) : Option (Bool) := if a0 ≥ a1 then (some (decide (a0 ≤ a2))) else (some false)
set_option maxHeartbeats 8000000 in
set_option maxRecDepth 100000 in
theorem impl_in.calls (a0 : Int) (a1 : Int) (a2 : Int) (r : Bool) (w : World) (h : impl_in.f a0 a1 a2 = some r) :
    Calls Tryd.prog 28 #[.int .i64 a0, .int .i64 a1, .int .i64 a2] w fun e w' => e = .returned (.bool r) ∧ Drawn0 w w' := by
  have H : (if a0 ≥ a1 then (some (decide (a0 ≤ a2))) else (some false)) = some r := h
  clear h
  by_cases c4 : a0 ≥ a1
  · rw [if_pos c4] at H
    have c4b0 : decide (a1 ≤ a0) = true := decide_eq_true c4
    clear c4
    obtain rfl := Option.some.inj H
    go_enter Tryd.func28, Tryd.ntmps28
    go_wp2
    go_ret
    exact ⟨by first | rfl | (simp; done) | (simp [*]; done), by repeat (first | exact Drawn0.refl _ | apply Drawn0.step)⟩
  · rw [if_neg c4] at H
    have c4b0 : decide (a1 ≤ a0) = false := decide_eq_false c4
    clear c4
    obtain rfl := Option.some.inj H
    go_enter Tryd.func28, Tryd.ntmps28
    go_wp2
    go_ret
    exact ⟨by first | rfl | (simp; done) | (simp [*]; done), by repeat (first | exact Drawn0.refl _ | apply Drawn0.step)⟩
end Go.Proofs.YtnalfnoebhmijaaDoor.Pr
namespace Go.Proofs.YtnalfnoebhmijaaDoor.Pr
open Go.RowKit Go.Proofs.YtnalfnoebhmijaaDoorW.PrintWords Go.Proofs.YtnalfnoebhmijaaDoorW.PrintLast Go.Proofs.YtnalfnoebhmijaaDoorW.PrintMore
attribute [local go_sem] max2_int min2_int max_two min_two max_three min_three max_four min_four
set_option linter.unusedVariables false
set_option linter.unusedSimpArgs false
mutual
def impl_GrdOk.j0 : Nat → Bool → Int → Int → List (S37) → Option (Bool)
  | 0, _, _, _, _ => none
  | k + 1, x20, x474000, x474001, x474002 => if x20 = true then (some false) else (impl_GrdOk.l0 k x474002 (x474002.length : Int) 0 x474000 x474001 x474002)
def impl_GrdOk.l0 : Nat → List (S37) → Int → Int → Int → Int → List (S37) → Option (Bool)
  | 0, _, _, _, _, _, _ => none
  | k + 1, x22, x23, x24, x474000, x474001, x474002 => if x24 < x23 then (if 0 ≤ x24 then (if x24 < (x22.length : Int) then ((impl_in.f ((rd_T37 x22 x24).f0) 0 (wrap64 (x474000 - 1))).bind fun t478 => (if t478 = true then ((impl_in.f ((rd_T37 x22 x24).f2) 1 (wrap64 (x474000 - ((rd_T37 x22 x24).f0)))).bind fun t479 => (if t479 = true then ((impl_in.f ((rd_T37 x22 x24).f1) 0 (wrap64 (x474001 - 1))).bind fun t480 => (if t480 = true then ((impl_in.f ((rd_T37 x22 x24).f3) 1 (wrap64 (x474001 - ((rd_T37 x22 x24).f1)))).bind fun t481 => (impl_GrdOk.j2 k x24 x22 x23 x24 (!t481) x474000 x474001 x474002 ((rd_T37 x22 x24).f0) ((rd_T37 x22 x24).f1) ((rd_T37 x22 x24).f2) ((rd_T37 x22 x24).f3) ((rd_T37 x22 x24).f4))) else (impl_GrdOk.j2 k x24 x22 x23 x24 true x474000 x474001 x474002 ((rd_T37 x22 x24).f0) ((rd_T37 x22 x24).f1) ((rd_T37 x22 x24).f2) ((rd_T37 x22 x24).f3) ((rd_T37 x22 x24).f4)))) else (impl_GrdOk.j2 k x24 x22 x23 x24 true x474000 x474001 x474002 ((rd_T37 x22 x24).f0) ((rd_T37 x22 x24).f1) ((rd_T37 x22 x24).f2) ((rd_T37 x22 x24).f3) ((rd_T37 x22 x24).f4)))) else (impl_GrdOk.j2 k x24 x22 x23 x24 true x474000 x474001 x474002 ((rd_T37 x22 x24).f0) ((rd_T37 x22 x24).f1) ((rd_T37 x22 x24).f2) ((rd_T37 x22 x24).f3) ((rd_T37 x22 x24).f4)))) else (none)) else (none)) else (some true)
def impl_GrdOk.j2 : Nat → Int → List (S37) → Int → Int → Bool → Int → Int → List (S37) → Int → Int → Int → Int → Int → Option (Bool)
  | 0, _, _, _, _, _, _, _, _, _, _, _, _, _ => none
  | k + 1, x3, x22, x23, x24, x66, x474000, x474001, x474002, x478000, x478001, x478002, x478003, x478004 => if x66 = true then (some false) else ((impl_in.f x478004 0 4).bind fun t482 => (if t482 = true then (if 0 ≤ x3 then (if x3 ≤ (x474002.length : Int) then ((impl_GrdCell_39.f (x474002.take (x3 : Int).toNat) x478000 x478001 x478002 x478003 x478004).bind fun t487 => (if t487 = true then (some false) else (impl_GrdOk.l0 k x22 x23 (wrap64 (x24 + 1)) x474000 x474001 x474002))) else (none)) else (none)) else (some false)))
end
def impl_GrdOk.f (k : Nat) (a0_0 : Int) (a0_1 : Int) (l0_2 : List (S37)) : Option (Bool) := (impl_in.f a0_0 1 8).bind fun t474 => (if t474 = true then ((impl_in.f a0_1 1 94).bind fun t475 => (if t475 = true then (impl_GrdOk.j0 k (decide ((l0_2.length : Int) > 40)) a0_0 a0_1 l0_2) else (impl_GrdOk.j0 k true a0_0 a0_1 l0_2))) else (impl_GrdOk.j0 k true a0_0 a0_1 l0_2))
def impl_GrdOk.T8 : Bool × List (List Nat × List Nat) := (true, [([], []), ([0], [0]), ([1], [1]), ([2], [2]), ([3, 2], [3]), ([4], [4]), ([5, 4], [4, 5]), ([4], [4]), ([6, 7, 4], [4, 6, 7]), ([4], [4]), ([9, 4], [4, 9]), ([8, 10, 4, 4], [4, 8, 10]), ([4, 11], [4, 11])])
def impl_GrdOk.B8 : List Nat := [0, 1, 3, 7, 15, 31, 63, 31, 255, 31, 543, 2047, 4095]
theorem impl_GrdOk.tab8 : rtab .any (opsOf Tryd.f42 8) = impl_GrdOk.T8 := by kernel_rfl
theorem impl_GrdOk.bits8 : waitsOk impl_GrdOk.T8.2 impl_GrdOk.B8 = true := by kernel_rfl
abbrev m42_0 := bm_ 13 0
abbrev m42_1 := bm_ 13 1
abbrev m42_2 := bm_ 13 3
abbrev m42_3 := bm_ 13 7
abbrev m42_4 := bm_ 13 15
abbrev m42_5 := bm_ 13 31
abbrev m42_6 := bm_ 13 63
abbrev m42_7 := bm_ 13 191
abbrev m42_8 := bm_ 13 255
abbrev m42_9 := bm_ 13 511
abbrev m42_10 := bm_ 13 1023
abbrev m42_11 := bm_ 13 2047
abbrev m42_12 := bm_ 13 4095
abbrev m42_13 := bm_ 13 8191
abbrev m42_14 := bm_ 13 127
abbrev qa42 := @Aside0.mk
abbrev qc42 := @blk_cell
set_option maxHeartbeats 8000000 in
set_option maxRecDepth 100000 in
theorem impl_GrdOk.calls (k : Nat) (a0_0 : Int) (a0_1 : Int) (A0_2 : Option Addr) (c0_2 : Nat) (l0_2 : List (S37)) (r : Bool) (w : World) (hr0_2 : Kd.C k37 w A0_2 l0_2.length l0_2) (hc0_2 : l0_2.length ≤ c0_2) (h : impl_GrdOk.f k a0_0 a0_1 l0_2 = some r) :
  Calls Tryd.prog 42 #[.agg #[.int .i64 a0_0, .int .i64 a0_1, .slice A0_2 l0_2.length c0_2]] w fun e w' => e = .returned (.bool r) ∧ Below w.heap.size w w' := by
 have hu33 := Tryd.underlying33;have hu37 := Tryd.underlying37;have aZ := qa42 hr0_2;have bb := qa42 hc0_2;clear hr0_2 hc0_2;have HB := qa42 (Below.refl w.heap.size w);have H := h;unfold impl_GrdOk.f at H;clear h;have HC2 := qa42 H;clear H;go_enter Tryd.func42, Tryd.ntmps42;go_upto_region 1 with (first | ((with_reducible refine gate_dst (N := 1) rfl ?_); (try (refine gate_guard (by rfl) ?_; dsimp only)); refine bx_ 1 #[.int .i64 a0_0, .int .i64 a0_1, .slice A0_2 l0_2.length c0_2] 33 ?_; intro ag hg w3 hbox hb; have n0_ := qa42 (below_step (bl_ HB.out) hb); have n1_ := qa42 (hbox); have n2_ := qa42 ((sz_ (below_size (bl_ HB.out)) hg : w.heap.size ≤ ag)); have n3_ := qa42 n2_.out; replace HB := n0_; have ac := n1_; have GW473 := n2_; have af := n3_; clear n0_ n1_ n2_ n3_; clear hb hbox hg));(try simp only [Act.put, qa_, qb_, qc_]);go_cut [20] (fun v20 wc => ∃ (kq : Nat) (aA : Bool), v20 = .bool aA ∧ Aside0 (impl_GrdOk.j0 kq aA a0_0 a0_1 l0_2 = some r) ∧ Aside0 (kq ≤ k) ∧ Aside0 (wc.heap[ag]? = some (.cells #[.int .i64 a0_0, .int .i64 a0_1, (.slice A0_2 l0_2.length c0_2)] 33 (0, 0))) ∧ Aside0 (Below w.heap.size w wc))
 case first =>
  have H := HC2.out;clear HC2;obtain ⟨t474, A4, H⟩ := ob_ H;(try dsimp only at H);by_cases c5 : t474 = true
  (·subst c5;(have H1 : ((impl_in.f a0_1 1 94).bind fun t475 => (if t475 = true then (impl_GrdOk.j0 k (decide ((l0_2.length : Int) > 40)) a0_0 a0_1 l0_2) else (impl_GrdOk.j0 k true a0_0 a0_1 l0_2))) = some r := by rw [if_pos rfl] at H; exact H);clear H;have H := H1;clear H1;obtain ⟨t475, A6, H⟩ := ob_ H;(try dsimp only at H);by_cases c7 : t475 = true;(·subst c7;(have H1 : (impl_GrdOk.j0 k (decide ((l0_2.length : Int) > 40)) a0_0 a0_1 l0_2) = some r := by rw [if_pos rfl] at H; exact H);clear H;have H := H1;clear H1;have H' := qa42 H;clear H;have aK := c3_ ac.out;(go_wp2_with (first | ((with_reducible refine gate_callee (f := 28) rfl ?_); refine gl_ (some 7) Tryd.func28 #[.int .i64 a0_0, .int .i64 1, .int .i64 8] ?_; (with_reducible refine (impl_in.calls a0_0 1 8 true _ A4.out).mono ?_); rintro e w' ⟨rfl, ⟨nd, rfl⟩⟩; refine ⟨_, rfl, ?_⟩) | (go_at_call 28; (with_reducible refine (impl_in.calls a0_1 1 94 true _ A6.out).mono ?_); rintro e w' ⟨rfl, ⟨nd, rfl⟩⟩)));go_meet;(case rel => exact ⟨_, (decide ((l0_2.length : Int) > 40)), rf_, H', ⟨by first | omega | exact Nat.le_refl _⟩, ⟨kb_ ac.out⟩, ⟨bl_ HB.out⟩⟩));replace c7 := Bool.eq_false_iff.mpr c7;subst c7;(have H1 : (impl_GrdOk.j0 k true a0_0 a0_1 l0_2) = some r := by rw [if_neg (show ¬ (false = true) by decide)] at H; exact H);clear H;have H := H1;clear H1;have H' := qa42 H;clear H;have aJ := c3_ ac.out;(go_wp2_with (first | ((with_reducible refine gate_callee (f := 28) rfl ?_); refine gl_ (some 7) Tryd.func28 #[.int .i64 a0_0, .int .i64 1, .int .i64 8] ?_; (with_reducible refine (impl_in.calls a0_0 1 8 true _ A4.out).mono ?_); rintro e w' ⟨rfl, ⟨nd, rfl⟩⟩; refine ⟨_, rfl, ?_⟩) | (go_at_call 28; (with_reducible refine (impl_in.calls a0_1 1 94 false _ A6.out).mono ?_); rintro e w' ⟨rfl, ⟨nd, rfl⟩⟩)));go_meet;(case rel => exact ⟨_, (true), rf_, H', ⟨by first | omega | exact Nat.le_refl _⟩, ⟨kb_ ac.out⟩, ⟨bl_ HB.out⟩⟩))
  replace c5 := Bool.eq_false_iff.mpr c5;subst c5;(have H1 : (impl_GrdOk.j0 k true a0_0 a0_1 l0_2) = some r := by rw [if_neg (show ¬ (false = true) by decide)] at H; exact H);clear H;have H := H1;clear H1;have H' := qa42 H;clear H;have av := c3_ ac.out;(go_wp2_with (first | ((with_reducible refine gate_callee (f := 28) rfl ?_); refine gl_ (some 7) Tryd.func28 #[.int .i64 a0_0, .int .i64 1, .int .i64 8] ?_; (with_reducible refine (impl_in.calls a0_0 1 8 false _ A4.out).mono ?_); rintro e w' ⟨rfl, ⟨nd, rfl⟩⟩; refine ⟨_, rfl, ?_⟩)));go_meet;(case rel => exact ⟨_, (true), rf_, H', ⟨by first | omega | exact Nat.le_refl _⟩, ⟨kb_ ac.out⟩, ⟨bl_ HB.out⟩⟩)
 case rest =>
  clear HC2;(try clear c2);(try clear p2);(try clear c4);(try clear c5);(try clear c7);(try clear av);(try clear aK);(try clear aJ);obtain ⟨kq, aA, rfl, HA, HJ1, ac, HB⟩ := hcut
  cases kq with
   | zero => exact absurd HA.out (by simp [impl_GrdOk.j0])
   | succ kj1 =>
    have H := HA.out;clear HA;simp only [impl_GrdOk.j0] at H;by_cases c11 : aA = true;(·subst c11;(have H1 : (some false) = some r := by rw [if_pos rfl] at H; exact H);clear H;have H := H1;clear H1;obtain rfl := Option.some.inj H;go_wp2;go_ret;exact ⟨rg_, bl_ HB.out⟩)
    replace c11 := Bool.eq_false_iff.mpr c11;subst c11;(have H1 : (impl_GrdOk.l0 kj1 l0_2 (l0_2.length : Int) 0 a0_0 a0_1 l0_2) = some r := by rw [if_neg (show ¬ (false = true) by decide)] at H; exact H);clear H;have H := H1;clear H1;have H' := qa42 H;clear H;have aV := c3_ ac.out;go_wp2;go_loopg [24] kj1 (fun kq v24 w' => ∃ (aa : Int), v24 = .int .i64 aa ∧ Aside0 (impl_GrdOk.l0 kq l0_2 (l0_2.length : Int) aa a0_0 a0_1 l0_2 = some r) ∧ Aside0 (kq ≤ kj1) ∧ Aside0 (w'.heap[ag]? = some (.cells #[.int .i64 a0_0, .int .i64 a0_1, (.slice A0_2 l0_2.length c0_2)] 33 (0, 0))) ∧ Aside0 (Below w.heap.size w w'));(case atStart => exact ⟨(0), rf_, H', ⟨Nat.le_refl _⟩, ⟨kb_ ac.out⟩, ⟨bl_ HB.out⟩⟩)
    case round =>
     clear H';(try clear c1);(try clear c2);(try clear p2);(try clear c4);(try clear c5);(try clear c7);(try clear c11);(try clear av);(try clear aV);(try clear aK);(try clear aJ);(try clear p2);obtain ⟨aa, rfl, HA, HK2, ac, HB⟩ := hrel
     cases gk with
      | zero => exact absurd HA.out (by simp [impl_GrdOk.l0])
      | succ k2 =>
       have H := HA.out;clear HA;simp only [impl_GrdOk.l0] at H;by_cases c13 : aa < (l0_2.length : Int)
       ·rw [if_pos c13] at H;have a9 : decide (aa < (l0_2.length : Int)) = true := decide_eq_true c13;clear c13;by_cases c14 : 0 ≤ aa
        ·rw [if_pos c14] at H;have cD : decide (0 ≤ aa) = true := decide_eq_true c14;clear c14;by_cases c15 : aa < (l0_2.length : Int)
         ·rw [if_pos c15] at H;have cC : decide (aa < (l0_2.length : Int)) = true := decide_eq_true c15;clear c15;have a7 := qa42 H;clear H;have aY : 0 ≤ (aa : Int) := dq_;have aW : aa < (l0_2.length : Int) := dq_;obtain ⟨ai, cG, ap, am, ao, an, al⟩ := at_T37 aZ.out aa aY aW;cases cG;replace ap := (HB.out.cell (World.block_lt_of_cell? w _ ap)).trans ap;replace am := (HB.out.cell (World.block_lt_of_cell? w _ am)).trans am;replace ao := (HB.out.cell (World.block_lt_of_cell? w _ ao)).trans ao;replace an := (HB.out.cell (World.block_lt_of_cell? w _ an)).trans an;replace al := (HB.out.cell (World.block_lt_of_cell? w _ al)).trans al;replace aY := eq_true aY;replace aW := eq_true aW;go_upto_region 6 with (first | ((with_reducible refine gate_dst (N := 4) rfl ?_); (try (refine gate_guard (by rfl) ?_; dsimp only)); refine bx_ 4 #[.int .i64 0, .int .i64 0, .int .i64 0, .int .i64 0, .int .i64 0] 37 ?_; intro ae hg w17 hbox hb; have n0_ := qa42 (blk_below (g := ag) (kb_ ac.out) hb); have n1_ := qa42 (below_step (bl_ HB.out) hb); have n2_ := qa42 (hbox); have n3_ := qa42 ((sz_ (below_size (bl_ HB.out)) hg : w.heap.size ≤ ae)); have n4_ := qa42 n3_.out; have n5_ := qa42 ((nl_ (blk_lt (g := ag) (kb_ ac.out)) hg : ag ≠ ae)); have n6_ := qa42 (Ne.symm n5_.out); replace ac := n0_; replace HB := n1_; have ab := n2_; have GW477 := n3_; have ah := n4_; have ad := n5_; have aj := n6_; clear n0_ n1_ n2_ n3_ n4_ n5_ n6_; clear hb hbox hg; have hnb18 := aj.out; have hnc18 := ad.out; have cg := c5_ ab.out));(try simp only [Act.put, qa_, qb_, qc_])
          go_cut [66] (fun v66 wc => ∃ (kq : Nat) (ar : Bool), v66 = .bool ar ∧ Aside0 (impl_GrdOk.j2 kq aa l0_2 (l0_2.length : Int) aa ar a0_0 a0_1 l0_2 ((rd_T37 l0_2 aa).f0) ((rd_T37 l0_2 aa).f1) ((rd_T37 l0_2 aa).f2) ((rd_T37 l0_2 aa).f3) ((rd_T37 l0_2 aa).f4) = some r) ∧ Aside0 (kq ≤ k2) ∧ Aside0 (wc.heap[ag]? = some (.cells #[.int .i64 a0_0, .int .i64 a0_1, (.slice (some ai) l0_2.length c0_2)] 33 (0, 0))) ∧ Aside0 (wc.heap[ae]? = some (.cells #[.int .i64 ((rd_T37 l0_2 aa).f0), .int .i64 ((rd_T37 l0_2 aa).f1), .int .i64 ((rd_T37 l0_2 aa).f2), .int .i64 ((rd_T37 l0_2 aa).f3), .int .i64 ((rd_T37 l0_2 aa).f4)] 37 (0, 0))) ∧ Aside0 (Below w.heap.size w wc))
          case first =>
           have H := a7.out;clear a7;obtain ⟨t478, A20, H⟩ := ob_ H;(try dsimp only at H);by_cases c21 : t478 = true
           ·subst c21;(have H1 : ((impl_in.f ((rd_T37 l0_2 aa).f2) 1 (wrap64 (a0_0 - ((rd_T37 l0_2 aa).f0)))).bind fun t479 => (if t479 = true then ((impl_in.f ((rd_T37 l0_2 aa).f1) 0 (wrap64 (a0_1 - 1))).bind fun t480 => (if t480 = true then ((impl_in.f ((rd_T37 l0_2 aa).f3) 1 (wrap64 (a0_1 - ((rd_T37 l0_2 aa).f1)))).bind fun t481 => (impl_GrdOk.j2 k2 aa l0_2 (l0_2.length : Int) aa (!t481) a0_0 a0_1 l0_2 ((rd_T37 l0_2 aa).f0) ((rd_T37 l0_2 aa).f1) ((rd_T37 l0_2 aa).f2) ((rd_T37 l0_2 aa).f3) ((rd_T37 l0_2 aa).f4))) else (impl_GrdOk.j2 k2 aa l0_2 (l0_2.length : Int) aa true a0_0 a0_1 l0_2 ((rd_T37 l0_2 aa).f0) ((rd_T37 l0_2 aa).f1) ((rd_T37 l0_2 aa).f2) ((rd_T37 l0_2 aa).f3) ((rd_T37 l0_2 aa).f4)))) else (impl_GrdOk.j2 k2 aa l0_2 (l0_2.length : Int) aa true a0_0 a0_1 l0_2 ((rd_T37 l0_2 aa).f0) ((rd_T37 l0_2 aa).f1) ((rd_T37 l0_2 aa).f2) ((rd_T37 l0_2 aa).f3) ((rd_T37 l0_2 aa).f4)))) = some r := by rw [if_pos rfl] at H; exact H);clear H;have H := H1;clear H1;obtain ⟨t479, A22, H⟩ := ob_ H;(try dsimp only at H);by_cases c23 : t479 = true
            ·subst c23;(have H1 : ((impl_in.f ((rd_T37 l0_2 aa).f1) 0 (wrap64 (a0_1 - 1))).bind fun t480 => (if t480 = true then ((impl_in.f ((rd_T37 l0_2 aa).f3) 1 (wrap64 (a0_1 - ((rd_T37 l0_2 aa).f1)))).bind fun t481 => (impl_GrdOk.j2 k2 aa l0_2 (l0_2.length : Int) aa (!t481) a0_0 a0_1 l0_2 ((rd_T37 l0_2 aa).f0) ((rd_T37 l0_2 aa).f1) ((rd_T37 l0_2 aa).f2) ((rd_T37 l0_2 aa).f3) ((rd_T37 l0_2 aa).f4))) else (impl_GrdOk.j2 k2 aa l0_2 (l0_2.length : Int) aa true a0_0 a0_1 l0_2 ((rd_T37 l0_2 aa).f0) ((rd_T37 l0_2 aa).f1) ((rd_T37 l0_2 aa).f2) ((rd_T37 l0_2 aa).f3) ((rd_T37 l0_2 aa).f4)))) = some r := by rw [if_pos rfl] at H; exact H);clear H;have H := H1;clear H1;obtain ⟨t480, A24, H⟩ := ob_ H;(try dsimp only at H);by_cases c25 : t480 = true
             ·subst c25;(have H1 : ((impl_in.f ((rd_T37 l0_2 aa).f3) 1 (wrap64 (a0_1 - ((rd_T37 l0_2 aa).f1)))).bind fun t481 => (impl_GrdOk.j2 k2 aa l0_2 (l0_2.length : Int) aa (!t481) a0_0 a0_1 l0_2 ((rd_T37 l0_2 aa).f0) ((rd_T37 l0_2 aa).f1) ((rd_T37 l0_2 aa).f2) ((rd_T37 l0_2 aa).f3) ((rd_T37 l0_2 aa).f4))) = some r := by rw [if_pos rfl] at H; exact H);clear H;have H := H1;clear H1;obtain ⟨t481, A26, H⟩ := ob_ H;(try dsimp only at H);have H' := qa42 H;clear H;have hnb27 := aj.out;have hnc27 := ad.out;have bP := c5_ ab.out;have bw := c3_ ac.out;(go_wp2_with (first | ((with_reducible refine gate_callee (f := 28) rfl ?_); refine gl_ (some 34) Tryd.func28 #[.int .i64 ((rd_T37 l0_2 aa).f0), .int .i64 0, .int .i64 (wrap64 (a0_0 - 1))] ?_; (with_reducible refine (impl_in.calls ((rd_T37 l0_2 aa).f0) 0 (wrap64 (a0_0 - 1)) true _ A20.out).mono ?_); rintro e w' ⟨rfl, ⟨nd, rfl⟩⟩; refine ⟨_, rfl, ?_⟩) | (go_at_call 28; (with_reducible refine (impl_in.calls ((rd_T37 l0_2 aa).f2) 1 (wrap64 (a0_0 - ((rd_T37 l0_2 aa).f0))) true _ A22.out).mono ?_); rintro e w' ⟨rfl, ⟨nd, rfl⟩⟩) | (go_at_call 28; (with_reducible refine (impl_in.calls ((rd_T37 l0_2 aa).f1) 0 (wrap64 (a0_1 - 1)) true _ A24.out).mono ?_); rintro e w' ⟨rfl, ⟨nd, rfl⟩⟩) | (go_at_call 28; (with_reducible refine (impl_in.calls ((rd_T37 l0_2 aa).f3) 1 (wrap64 (a0_1 - ((rd_T37 l0_2 aa).f1))) t481 _ A26.out).mono ?_); rintro e w' ⟨rfl, ⟨nd, rfl⟩⟩)));go_meet
              (case rel => exact ⟨_, (!t481), rf_, H', ⟨by have := HJ1.out; have := HK2.out; first | omega | exact Nat.le_refl _⟩, ⟨kf_ ac.out⟩, ⟨kf_ ab.out⟩, ⟨bl_ HB.out⟩⟩)
             replace c25 := Bool.eq_false_iff.mpr c25;subst c25;(have H1 : (impl_GrdOk.j2 k2 aa l0_2 (l0_2.length : Int) aa true a0_0 a0_1 l0_2 ((rd_T37 l0_2 aa).f0) ((rd_T37 l0_2 aa).f1) ((rd_T37 l0_2 aa).f2) ((rd_T37 l0_2 aa).f3) ((rd_T37 l0_2 aa).f4)) = some r := by rw [if_neg (show ¬ (false = true) by decide)] at H; exact H);clear H;have H := H1;clear H1;have H' := qa42 H;clear H;have hnb30 := aj.out;have hnc30 := ad.out;have cf := c5_ ab.out;have bH := c3_ ac.out;(go_wp2_with (first | ((with_reducible refine gate_callee (f := 28) rfl ?_); refine gl_ (some 34) Tryd.func28 #[.int .i64 ((rd_T37 l0_2 aa).f0), .int .i64 0, .int .i64 (wrap64 (a0_0 - 1))] ?_; (with_reducible refine (impl_in.calls ((rd_T37 l0_2 aa).f0) 0 (wrap64 (a0_0 - 1)) true _ A20.out).mono ?_); rintro e w' ⟨rfl, ⟨nd, rfl⟩⟩; refine ⟨_, rfl, ?_⟩) | (go_at_call 28; (with_reducible refine (impl_in.calls ((rd_T37 l0_2 aa).f2) 1 (wrap64 (a0_0 - ((rd_T37 l0_2 aa).f0))) true _ A22.out).mono ?_); rintro e w' ⟨rfl, ⟨nd, rfl⟩⟩) | (go_at_call 28; (with_reducible refine (impl_in.calls ((rd_T37 l0_2 aa).f1) 0 (wrap64 (a0_1 - 1)) false _ A24.out).mono ?_); rintro e w' ⟨rfl, ⟨nd, rfl⟩⟩)));go_meet
             (case rel => exact ⟨_, (true), rf_, H', ⟨by have := HJ1.out; have := HK2.out; first | omega | exact Nat.le_refl _⟩, ⟨kf_ ac.out⟩, ⟨kf_ ab.out⟩, ⟨bl_ HB.out⟩⟩)
            replace c23 := Bool.eq_false_iff.mpr c23;subst c23;(have H1 : (impl_GrdOk.j2 k2 aa l0_2 (l0_2.length : Int) aa true a0_0 a0_1 l0_2 ((rd_T37 l0_2 aa).f0) ((rd_T37 l0_2 aa).f1) ((rd_T37 l0_2 aa).f2) ((rd_T37 l0_2 aa).f3) ((rd_T37 l0_2 aa).f4)) = some r := by rw [if_neg (show ¬ (false = true) by decide)] at H; exact H);clear H;have H := H1;clear H1;have H' := qa42 H;clear H;have hnb33 := aj.out;have hnc33 := ad.out;have bG := c5_ ab.out;have bt := c3_ ac.out;(go_wp2_with (first | ((with_reducible refine gate_callee (f := 28) rfl ?_); refine gl_ (some 34) Tryd.func28 #[.int .i64 ((rd_T37 l0_2 aa).f0), .int .i64 0, .int .i64 (wrap64 (a0_0 - 1))] ?_; (with_reducible refine (impl_in.calls ((rd_T37 l0_2 aa).f0) 0 (wrap64 (a0_0 - 1)) true _ A20.out).mono ?_); rintro e w' ⟨rfl, ⟨nd, rfl⟩⟩; refine ⟨_, rfl, ?_⟩) | (go_at_call 28; (with_reducible refine (impl_in.calls ((rd_T37 l0_2 aa).f2) 1 (wrap64 (a0_0 - ((rd_T37 l0_2 aa).f0))) false _ A22.out).mono ?_); rintro e w' ⟨rfl, ⟨nd, rfl⟩⟩)));go_meet;(case rel => exact ⟨_, (true), rf_, H', ⟨by have := HJ1.out; have := HK2.out; first | omega | exact Nat.le_refl _⟩, ⟨kf_ ac.out⟩, ⟨kf_ ab.out⟩, ⟨bl_ HB.out⟩⟩)
           replace c21 := Bool.eq_false_iff.mpr c21;subst c21;(have H1 : (impl_GrdOk.j2 k2 aa l0_2 (l0_2.length : Int) aa true a0_0 a0_1 l0_2 ((rd_T37 l0_2 aa).f0) ((rd_T37 l0_2 aa).f1) ((rd_T37 l0_2 aa).f2) ((rd_T37 l0_2 aa).f3) ((rd_T37 l0_2 aa).f4)) = some r := by rw [if_neg (show ¬ (false = true) by decide)] at H; exact H);clear H;have H := H1;clear H1;have H' := qa42 H;clear H;have hnb36 := aj.out;have hnc36 := ad.out;have bX := c5_ ab.out;have bV := c3_ ac.out;(go_wp2_with (first | ((with_reducible refine gate_callee (f := 28) rfl ?_); refine gl_ (some 34) Tryd.func28 #[.int .i64 ((rd_T37 l0_2 aa).f0), .int .i64 0, .int .i64 (wrap64 (a0_0 - 1))] ?_; (with_reducible refine (impl_in.calls ((rd_T37 l0_2 aa).f0) 0 (wrap64 (a0_0 - 1)) false _ A20.out).mono ?_); rintro e w' ⟨rfl, ⟨nd, rfl⟩⟩; refine ⟨_, rfl, ?_⟩)));go_meet;(case rel => exact ⟨_, (true), rf_, H', ⟨by have := HJ1.out; have := HK2.out; first | omega | exact Nat.le_refl _⟩, ⟨kf_ ac.out⟩, ⟨kf_ ab.out⟩, ⟨bl_ HB.out⟩⟩)
          case rest =>
           clear a7;(try clear c1);(try clear c2);(try clear p2);(try clear c3);(try clear c4);(try clear p4);(try clear q4);(try clear hx4);(try clear c5);(try clear p6);(try clear c7);(try clear c11);(try clear c13);(try clear a9);(try clear c14);(try clear cD);(try clear c15);(try clear cC);(try clear c18);(try clear c21);(try clear c23);(try clear c25);(try clear c27);(try clear c28);(try clear c30);(try clear c33);(try clear c36);(try clear av);(try clear aV);(try clear cg);(try clear bP);(try clear bw);(try clear cf);(try clear bH);(try clear bG);(try clear bt);(try clear bX);(try clear bV);(try clear aK);(try clear aJ);(try clear ap);(try clear am);(try clear ao);(try clear an);(try clear al);(try clear p2);(try clear aY);(try clear aW);obtain ⟨kq, ar, rfl, HA, cx, ac, ab, HB⟩ := hcut
           cases kq with
            | zero => exact absurd HA.out (by simp [impl_GrdOk.j2])
            | succ kj15 =>
             have H := HA.out;clear HA;simp only [impl_GrdOk.j2] at H;by_cases c39 : ar = true;(·subst c39;(have H1 : (some false) = some r := by rw [if_pos rfl] at H; exact H);clear H;have H := H1;clear H1;obtain rfl := Option.some.inj H;go_wp2;go_ret;exact ⟨rg_, bl_ HB.out⟩)
             replace c39 := Bool.eq_false_iff.mpr c39;subst c39;(have H1 : ((impl_in.f ((rd_T37 l0_2 aa).f4) 0 4).bind fun t482 => (if t482 = true then (if 0 ≤ aa then (if aa ≤ (l0_2.length : Int) then ((impl_GrdCell_39.f (l0_2.take (aa : Int).toNat) ((rd_T37 l0_2 aa).f0) ((rd_T37 l0_2 aa).f1) ((rd_T37 l0_2 aa).f2) ((rd_T37 l0_2 aa).f3) ((rd_T37 l0_2 aa).f4)).bind fun t487 => (if t487 = true then (some false) else (impl_GrdOk.l0 kj15 l0_2 (l0_2.length : Int) (wrap64 (aa + 1)) a0_0 a0_1 l0_2))) else (none)) else (none)) else (some false))) = some r := by rw [if_neg (show ¬ (false = true) by decide)] at H; exact H);clear H;have H := H1;clear H1;obtain ⟨t482, A40, H⟩ := ob_ H;(try dsimp only at H);by_cases c41 : t482 = true
             ·subst c41;(have H1 : (if 0 ≤ aa then (if aa ≤ (l0_2.length : Int) then ((impl_GrdCell_39.f (l0_2.take (aa : Int).toNat) ((rd_T37 l0_2 aa).f0) ((rd_T37 l0_2 aa).f1) ((rd_T37 l0_2 aa).f2) ((rd_T37 l0_2 aa).f3) ((rd_T37 l0_2 aa).f4)).bind fun t487 => (if t487 = true then (some false) else (impl_GrdOk.l0 kj15 l0_2 (l0_2.length : Int) (wrap64 (aa + 1)) a0_0 a0_1 l0_2))) else (none)) else (none)) = some r := by rw [if_pos rfl] at H; exact H);clear H;have H := H1;clear H1;by_cases c42 : 0 ≤ aa
              ·rw [if_pos c42] at H;have c42b0 := eq_true c42;have c42b1 : decide (0 ≤ aa) = true := decide_eq_true c42;clear c42;by_cases c43 : aa ≤ (l0_2.length : Int)
               ·rw [if_pos c43] at H;have c43b0 := eq_true c43;have c43b1 : decide (aa ≤ (l0_2.length : Int)) = true := decide_eq_true c43;clear c43;obtain ⟨ak, aq⟩ : ∃ y_ : List (S37), y_ = (l0_2.take (aa : Int).toNat) := ⟨_, rfl⟩;(replace H : ((impl_GrdCell_39.f ak ((rd_T37 l0_2 aa).f0) ((rd_T37 l0_2 aa).f1) ((rd_T37 l0_2 aa).f2) ((rd_T37 l0_2 aa).f3) ((rd_T37 l0_2 aa).f4)).bind fun t487 => (if t487 = true then (some false) else (impl_GrdOk.l0 kj15 l0_2 (l0_2.length : Int) (wrap64 (aa + 1)) a0_0 a0_1 l0_2))) = some r := hb_ aq H);have aB := qa42 aq;clear aq;obtain ⟨t487, A44, H⟩ := ob_ H;(try dsimp only at H);by_cases c45 : t487 = true
                ·subst c45;(have H1 : (some false) = some r := by rw [if_pos rfl] at H; exact H);clear H;have H := H1;clear H1;obtain rfl := Option.some.inj H;(try go_wp2);have n0_ := qa42 (blk_drew ac.out);have n1_ := qa42 (blk_drew ab.out);have n2_ := qa42 (below_drew1 HB.out);replace ac := n0_;replace ab := n1_;replace HB := n2_;clear n0_ n1_ n2_;refine start_ (n := 13) (S := fun w' => w'.cell? ⟨ae, 0, none⟩ = some (.int .i64 ((rd_T37 l0_2 aa).f0)) ∧ w'.cell? ⟨ae, 1, none⟩ = some (.int .i64 ((rd_T37 l0_2 aa).f1)) ∧ w'.cell? ⟨ae, 2, none⟩ = some (.int .i64 ((rd_T37 l0_2 aa).f2)) ∧ w'.cell? ⟨ae, 3, none⟩ = some (.int .i64 ((rd_T37 l0_2 aa).f3)) ∧ w'.cell? ⟨ae, 4, none⟩ = some (.int .i64 ((rd_T37 l0_2 aa).f4)) ∧ w'.cell? ⟨ag, 0, none⟩ = some (.int .i64 a0_0) ∧ w'.cell? ⟨ag, 1, none⟩ = some (.int .i64 a0_1) ∧ w'.cell? ⟨ag, 2, none⟩ = some (.slice (some ai) l0_2.length c0_2)) (ds := []) m42_0 (by kernel_rfl) rfl rfl ⟨(qc42 ab.out 0).trans rfl, (qc42 ab.out 1).trans rfl, (qc42 ab.out 2).trans rfl, (qc42 ab.out 3).trans rfl, (qc42 ab.out 4).trans rfl, (qc42 ac.out 0).trans rfl, (qc42 ac.out 1).trans rfl, (qc42 ac.out 2).trans rfl⟩ (fun hHeld => ?_); refine with_tabW impl_GrdOk.tab8 impl_GrdOk.bits8 (fun HT_ HW_ => ?_);generalize wc.drew = w46 at ac ab HB hHeld ⊢;refine pv_ 0 67 m42_1 HT_ ?_;refine tk_ 1 68 m42_2 HT_ HW_ hHeld ?_;refine one_ (i := 2) (N := some 69) m42_3 rfl rfl (one_of HT_.out (by kernel_rfl)) (by decide) (fun K hK => ?_);refine gs_ Tryd.func28 #[.int .i64 ((rd_T37 l0_2 aa).f4), .int .i64 0, .int .i64 4] ?_;(with_reducible refine (impl_in.calls ((rd_T37 l0_2 aa).f4) 0 4 true _ A40.out).mono ?_);rintro e w' ⟨rfl, ⟨nd, rfl⟩⟩;refine ⟨_, rfl, ?_⟩;have q47 : (aa : Int) ≤ ((l0_2.length : Int) : Int) := dq_;obtain ⟨i047, ba, _, cE, _⟩ := info_parts info37;have aP : l0_2.length ≤ c0_2 := bb.out;have cz : Kd.C k37 _ (some ai) l0_2.length l0_2 := aZ.out;have cA := cut_to (P := Tryd.prog) 31 37 .i64 Tryd.underlying31 ba (some ai) l0_2.length c0_2 aa dq_ q47 aP;have a8 := Kd.C_take (m := (aa : Int).toNat) cz (by omega);have a6 : ak.length = (aa : Int).toNat := (by rw [aB.out, List.length_take]; omega);rw [← aB.out] at a8;rw [← a6] at cA;have a3 := qa42 a8
                 have aX := qa42 (show ak.length ≤ c0_2 from by omega);clear a8 cz aP ba cE;have KY47 := qa42 a6;clear a6;replace q47 := eq_true q47;refine hh_ hK (fun hHeld => ?_);clear hK K;refine nm_ (some 69) ?_;refine pv_ 3 70 m42_4 HT_ ?_;refine pv_ 4 71 m42_5 HT_ ?_;refine pv_ 5 72 m42_6 HT_ ?_;refine pv_ 7 74 m42_7 HT_ ?_;refine tk_ 6 73 m42_8 HT_ HW_ hHeld ?_;refine pv_ 8 75 m42_9 HT_ ?_;refine tk_ 9 76 m42_10 HT_ HW_ hHeld ?_;refine pv_ 10 77 m42_11 HT_ ?_;refine one_ (i := 11) (N := some 78) m42_12 rfl rfl (one_of HT_.out (by kernel_rfl)) (by decide) (fun K hK => ?_)
                 refine gs_ Tryd.func39 #[.slice (some ai) ak.length c0_2, .func (.func 40) #[.agg #[.int .i64 ((rd_T37 l0_2 aa).f0), .int .i64 ((rd_T37 l0_2 aa).f1), .int .i64 ((rd_T37 l0_2 aa).f2), .int .i64 ((rd_T37 l0_2 aa).f3), .int .i64 ((rd_T37 l0_2 aa).f4)]] #[]] ?_;(with_reducible refine (impl_GrdCell_39.calls _ _ ak ((rd_T37 l0_2 aa).f0) ((rd_T37 l0_2 aa).f1) ((rd_T37 l0_2 aa).f2) ((rd_T37 l0_2 aa).f3) ((rd_T37 l0_2 aa).f4) true _ ?side1 ?side2 A44.out).mono ?_);(case side1 => exact kc_ (Kd.C_below a3.out (bl_ HB.out)));(case side2 => exact aX.out);rintro e w48 ⟨rfl, hb⟩;refine ⟨_, rfl, ?_⟩;have n0_ := qa42 (blk_below (g := ag) (kb_ ac.out) hb);have n1_ := qa42 (blk_below (g := ae) (kb_ ab.out) hb);have n2_ := qa42 (below_step (bl_ HB.out) hb);replace ac := n0_;replace ab := n1_;replace HB := n2_;clear n0_ n1_ n2_;(try clear hb);(try clear hb2);(try clear hk);(try clear hi);refine hh_ hK (fun hHeld => ?_);clear hK K;refine nm_ (some 78) ?_;refine pv_ 12 79 m42_13 HT_ ?_;refine done_ (done_of HT_.out (by kernel_rfl)) ?_;(try go_wp2);go_ret;exact ⟨rg_, bl_ HB.out⟩
                replace c45 := Bool.eq_false_iff.mpr c45;subst c45;(have H1 : (impl_GrdOk.l0 kj15 l0_2 (l0_2.length : Int) (wrap64 (aa + 1)) a0_0 a0_1 l0_2) = some r := by rw [if_neg (show ¬ (false = true) by decide)] at H; exact H);clear H;have H := H1;clear H1;have H' := qa42 H;clear H;(try go_wp2);have n0_ := qa42 (blk_drew ac.out);have n1_ := qa42 (blk_drew ab.out);have n2_ := qa42 (below_drew1 HB.out);replace ac := n0_;replace ab := n1_;replace HB := n2_;clear n0_ n1_ n2_;refine start_ (n := 13) (S := fun w' => w'.cell? ⟨ae, 0, none⟩ = some (.int .i64 ((rd_T37 l0_2 aa).f0)) ∧ w'.cell? ⟨ae, 1, none⟩ = some (.int .i64 ((rd_T37 l0_2 aa).f1)) ∧ w'.cell? ⟨ae, 2, none⟩ = some (.int .i64 ((rd_T37 l0_2 aa).f2)) ∧ w'.cell? ⟨ae, 3, none⟩ = some (.int .i64 ((rd_T37 l0_2 aa).f3)) ∧ w'.cell? ⟨ae, 4, none⟩ = some (.int .i64 ((rd_T37 l0_2 aa).f4)) ∧ w'.cell? ⟨ag, 0, none⟩ = some (.int .i64 a0_0) ∧ w'.cell? ⟨ag, 1, none⟩ = some (.int .i64 a0_1) ∧ w'.cell? ⟨ag, 2, none⟩ = some (.slice (some ai) l0_2.length c0_2)) (ds := []) m42_0 (by kernel_rfl) rfl rfl ⟨(qc42 ab.out 0).trans rfl, (qc42 ab.out 1).trans rfl, (qc42 ab.out 2).trans rfl, (qc42 ab.out 3).trans rfl, (qc42 ab.out 4).trans rfl, (qc42 ac.out 0).trans rfl, (qc42 ac.out 1).trans rfl, (qc42 ac.out 2).trans rfl⟩ (fun hHeld => ?_); refine with_tabW impl_GrdOk.tab8 impl_GrdOk.bits8 (fun HT_ HW_ => ?_);generalize wc.drew = w49 at ac ab HB hHeld ⊢;refine pv_ 0 67 m42_1 HT_ ?_;refine tk_ 1 68 m42_2 HT_ HW_ hHeld ?_;refine one_ (i := 2) (N := some 69) m42_3 rfl rfl (one_of HT_.out (by kernel_rfl)) (by decide) (fun K hK => ?_);refine gs_ Tryd.func28 #[.int .i64 ((rd_T37 l0_2 aa).f4), .int .i64 0, .int .i64 4] ?_;(with_reducible refine (impl_in.calls ((rd_T37 l0_2 aa).f4) 0 4 true _ A40.out).mono ?_);rintro e w' ⟨rfl, ⟨nd, rfl⟩⟩;refine ⟨_, rfl, ?_⟩;have q50 : (aa : Int) ≤ ((l0_2.length : Int) : Int) := dq_;obtain ⟨i050, bc, _, cF, _⟩ := info_parts info37;have aS : l0_2.length ≤ c0_2 := bb.out;have cr : Kd.C k37 _ (some ai) l0_2.length l0_2 := aZ.out;have cq := cut_to (P := Tryd.prog) 31 37 .i64 Tryd.underlying31 bc (some ai) l0_2.length c0_2 aa dq_ q50 aS;have a4 := Kd.C_take (m := (aa : Int).toNat) cr (by omega)
                have a5 : ak.length = (aa : Int).toNat := (by rw [aB.out, List.length_take]; omega);rw [← aB.out] at a4;rw [← a5] at cq;have a3 := qa42 a4;have aX := qa42 (show ak.length ≤ c0_2 from by omega);clear a4 cr aS bc cF;have KY50 := qa42 a5;clear a5;replace q50 := eq_true q50;refine hh_ hK (fun hHeld => ?_);clear hK K;refine nm_ (some 69) ?_;refine pv_ 3 70 m42_4 HT_ ?_;refine pv_ 4 71 m42_5 HT_ ?_;refine pv_ 5 72 m42_6 HT_ ?_;refine pv_ 7 74 m42_7 HT_ ?_;refine tk_ 6 73 m42_8 HT_ HW_ hHeld ?_;refine pv_ 8 75 m42_9 HT_ ?_;refine tk_ 9 76 m42_10 HT_ HW_ hHeld ?_;refine pv_ 10 77 m42_11 HT_ ?_
                refine one_ (i := 11) (N := some 78) m42_12 rfl rfl (one_of HT_.out (by kernel_rfl)) (by decide) (fun K hK => ?_);refine gs_ Tryd.func39 #[.slice (some ai) ak.length c0_2, .func (.func 40) #[.agg #[.int .i64 ((rd_T37 l0_2 aa).f0), .int .i64 ((rd_T37 l0_2 aa).f1), .int .i64 ((rd_T37 l0_2 aa).f2), .int .i64 ((rd_T37 l0_2 aa).f3), .int .i64 ((rd_T37 l0_2 aa).f4)]] #[]] ?_;(with_reducible refine (impl_GrdCell_39.calls _ _ ak ((rd_T37 l0_2 aa).f0) ((rd_T37 l0_2 aa).f1) ((rd_T37 l0_2 aa).f2) ((rd_T37 l0_2 aa).f3) ((rd_T37 l0_2 aa).f4) false _ ?side1 ?side2 A44.out).mono ?_);(case side1 => exact kc_ (Kd.C_below a3.out (bl_ HB.out)));(case side2 => exact aX.out);rintro e w51 ⟨rfl, hb⟩;refine ⟨_, rfl, ?_⟩;have n0_ := qa42 (blk_below (g := ag) (kb_ ac.out) hb);have n1_ := qa42 (blk_below (g := ae) (kb_ ab.out) hb);have n2_ := qa42 (below_step (bl_ HB.out) hb);replace ac := n0_;replace ab := n1_;replace HB := n2_;clear n0_ n1_ n2_;(try clear hb);(try clear hb2);(try clear hk);(try clear hi);refine hh_ hK (fun hHeld => ?_);clear hK K;refine nm_ (some 78) ?_;refine pv_ 12 79 m42_13 HT_ ?_;refine done_ (done_of HT_.out (by kernel_rfl)) ?_;(try go_wp2);go_roundg kj15;(case measure => have := HJ1.out; have := HK2.out; have := cx.out; omega);(case rel => exact ⟨(wrap64 (aa + 1)), rf_, H', ⟨by have := HJ1.out; have := HK2.out; have := cx.out; omega⟩, ⟨kb_ ac.out⟩, ⟨bl_ HB.out⟩⟩)
               rw [if_neg c43] at H;exact absurd H (by simp)
              rw [if_neg c42] at H;exact absurd H (by simp)
             replace c41 := Bool.eq_false_iff.mpr c41;subst c41;(have H1 : (some false) = some r := by rw [if_neg (show ¬ (false = true) by decide)] at H; exact H);clear H;have H := H1;clear H1;obtain rfl := Option.some.inj H;(try go_wp2);have n0_ := qa42 (blk_drew ac.out);have n1_ := qa42 (blk_drew ab.out);have n2_ := qa42 (below_drew1 HB.out);replace ac := n0_;replace ab := n1_;replace HB := n2_;clear n0_ n1_ n2_;refine start_ (n := 13) (S := fun w' => w'.cell? ⟨ae, 0, none⟩ = some (.int .i64 ((rd_T37 l0_2 aa).f0)) ∧ w'.cell? ⟨ae, 1, none⟩ = some (.int .i64 ((rd_T37 l0_2 aa).f1)) ∧ w'.cell? ⟨ae, 2, none⟩ = some (.int .i64 ((rd_T37 l0_2 aa).f2)) ∧ w'.cell? ⟨ae, 3, none⟩ = some (.int .i64 ((rd_T37 l0_2 aa).f3)) ∧ w'.cell? ⟨ae, 4, none⟩ = some (.int .i64 ((rd_T37 l0_2 aa).f4))) (ds := []) m42_0 (by kernel_rfl) rfl rfl ⟨(qc42 ab.out 0).trans rfl, (qc42 ab.out 1).trans rfl, (qc42 ab.out 2).trans rfl, (qc42 ab.out 3).trans rfl, (qc42 ab.out 4).trans rfl⟩ (fun hHeld => ?_); refine with_tabW impl_GrdOk.tab8 impl_GrdOk.bits8 (fun HT_ HW_ => ?_);generalize wc.drew = w52 at ac ab HB hHeld ⊢;refine pv_ 0 67 m42_1 HT_ ?_;refine tk_ 1 68 m42_2 HT_ HW_ hHeld ?_;refine one_ (i := 2) (N := some 69) m42_3 rfl rfl (one_of HT_.out (by kernel_rfl)) (by decide) (fun K hK => ?_);refine gs_ Tryd.func28 #[.int .i64 ((rd_T37 l0_2 aa).f4), .int .i64 0, .int .i64 4] ?_;(with_reducible refine (impl_in.calls ((rd_T37 l0_2 aa).f4) 0 4 false _ A40.out).mono ?_);rintro e w' ⟨rfl, ⟨nd, rfl⟩⟩;refine ⟨_, rfl, ?_⟩;refine hh_ hK (fun hHeld => ?_);clear hK K;refine nm_ (some 69) ?_;refine pv_ 3 70 m42_4 HT_ ?_;refine pv_ 4 71 m42_5 HT_ ?_;refine pw_ 5 72 m42_6 HT_ ?_;refine pw_ 6 73 m42_14 HT_ ?_;refine pw_ 7 74 m42_8 HT_ ?_;refine pw_ 8 75 m42_9 HT_ ?_;refine pw_ 9 76 m42_10 HT_ ?_;refine pw_ 10 77 m42_11 HT_ ?_;refine pw_ 11 78 m42_12 HT_ ?_;refine pv_ 12 79 m42_13 HT_ ?_;refine done_ (done_of HT_.out (by kernel_rfl)) ?_;(try go_wp2);go_ret;exact ⟨rg_, bl_ HB.out⟩
         rw [if_neg c15] at H;exact absurd H (by simp)
        rw [if_neg c14] at H;exact absurd H (by simp)
       rw [if_neg c13] at H;have a9 : decide (aa < (l0_2.length : Int)) = false := decide_eq_false c13;clear c13;obtain rfl := Option.some.inj H;go_wp2;go_ret;exact ⟨rg_, bl_ HB.out⟩
end Go.Proofs.YtnalfnoebhmijaaDoor.Pr
namespace Go.Proofs.YtnalfnoebhmijaaDoor.Pr
open Go.RowKit Go.Proofs.YtnalfnoebhmijaaDoorW.PrintWords Go.Proofs.YtnalfnoebhmijaaDoorW.PrintLast Go.Proofs.YtnalfnoebhmijaaDoorW.PrintMore
attribute [local go_sem] max2_int min2_int max_two min_two max_three min_three max_four min_four
set_option linter.unusedVariables false
set_option linter.unusedSimpArgs false
def overB (row : Int) (c : S37) : Bool := decide (c.f0 < row) && decide (wrap64 (c.f0 + c.f2) > row)
set_option maxHeartbeats 2000000 in
theorem overB_calls (row : Int) (g1 : Nat) (x0 x1 x2 x3 x4 : Int) (w : World) (h1 : w.cell? ⟨g1, 0, none⟩ = some (.int .i64 row)) :
    Calls Tryd.prog 43 #[.agg #[.int .i64 x0, .int .i64 x1, .int .i64 x2, .int .i64 x3, .int .i64 x4], .pointer (some ⟨g1, 0, none⟩)] w fun e w' => e = .returned (.bool (decide (x0 < row) && decide (wrap64 (x0 + x2) > row))) ∧ Below w.heap.size w w' := by
  have l1 : g1 < w.heap.size := World.block_lt_of_cell? w _ h1
  have n1 : ¬ w.heap.size = g1 := by omega
  by_cases c1 : x0 < row
  · go_enter Tryd.func43, Tryd.ntmps43
    go_wp2
    go_ret
    exact ⟨by simp [c1], by repeat (first | exact Below.refl _ _ | apply below_alloc | apply pw_below_drewN | apply below_drew1)⟩
  · go_enter Tryd.func43, Tryd.ntmps43
    go_wp2
    go_ret
    exact ⟨by simp; intro h; omega, by repeat (first | exact Below.refl _ _ | apply below_alloc | apply pw_below_drewN | apply below_drew1)⟩
end Go.Proofs.YtnalfnoebhmijaaDoor.Pr
namespace Go.Proofs.YtnalfnoebhmijaaDoor.Pr
open Go.RowKit Go.Proofs.YtnalfnoebhmijaaDoorW.PrintWords Go.Proofs.YtnalfnoebhmijaaDoorW.PrintLast Go.Proofs.YtnalfnoebhmijaaDoorW.PrintMore
attribute [local go_sem] max2_int min2_int max_two min_two max_three min_three max_four min_four
set_option linter.unusedVariables false
set_option linter.unusedSimpArgs false
def blocksL (l : List S37) : Nat → List Int
  | 0 => []
  | n + 1 => if l.any (overB (n : Int)) = true then blocksL l n else blocksL l n ++ [(n : Int)]
theorem blocksL_le (l : List S37) : ∀ n, (blocksL l n).length ≤ n
  | 0 => Nat.le_refl _
  | n + 1 => by
    have := blocksL_le l n
    unfold blocksL
    split
    · omega
    · simp; omega
def impl_GrdBlocks.f (k : Nat) (a0_0 a0_1 : Int) (l0_2 : List S37) : Option (List Int) :=
  (impl_GrdOk.f k a0_0 a0_1 l0_2).bind fun ok => if ok = true then (if 0 ≤ a0_0 ∧ a0_0 ≤ 8 then some (blocksL l0_2 a0_0.toNat) else none) else some []
set_option maxHeartbeats 4000000 in
set_option maxRecDepth 100000 in
theorem impl_GrdBlocks.calls (k : Nat) (a0_0 a0_1 : Int) (A0_2 : Option Addr) (c0_2 : Nat) (l0_2 : List S37) (r : List Int) (w : World) (hr0_2 : Kd.C k37 w A0_2 l0_2.length l0_2) (hc0_2 : l0_2.length ≤ c0_2) (h : impl_GrdBlocks.f k a0_0 a0_1 l0_2 = some r) :
    Calls Tryd.prog 15 #[.agg #[.int .i64 a0_0, .int .i64 a0_1, .slice A0_2 l0_2.length c0_2]] w fun e w' => ∃ v0_ : Value, e = .returned (v0_) ∧ Kd.R (Kd.int .i64) 3 w' w.heap.size (fun _ => True) v0_ r ∧ Below w.heap.size w w' := by
  unfold impl_GrdBlocks.f at h
  obtain ⟨ok, hok, h⟩ := Option.bind_eq_some_iff.mp h
  have bel : ∀ o, Below w.heap.size w (w.alloc o) := fun o => below_alloc (Below.refl w.heap.size w) o
  have hcall : ∀ o, Calls Tryd.prog 42 #[.agg #[.int .i64 a0_0, .int .i64 a0_1, .slice A0_2 l0_2.length c0_2]] (w.alloc o) fun e w' => e = .returned (.bool ok) ∧ Below (w.alloc o).heap.size (w.alloc o) w' :=
    fun o => impl_GrdOk.calls k a0_0 a0_1 A0_2 c0_2 l0_2 ok _ (Kd.C_below hr0_2 (bel o)) hc0_2 hok
  have HC := Aside0.mk hcall
  clear hcall hok
  cases ok with
  | false =>
    obtain rfl : [] = r := Option.some.inj h
    clear h hr0_2
    have HBel := Aside0.mk bel
    clear bel
    go_enter Tryd.func15, Tryd.ntmps15
    go_wp2_with (go_at_call 42; refine (HC.out _).mono ?_; rintro e w' ⟨rfl, hb'⟩)
    go_ret
    exact ⟨_, rfl, Kd.R_nil _ _ _ _ _, below_then (HBel.out _) (HBel.out _).size hb'⟩
  | true =>
    rw [if_pos rfl] at h
    by_cases hn : 0 ≤ a0_0 ∧ a0_0 ≤ 8
    case neg => rw [if_neg hn] at h; cases h
    rw [if_pos hn] at h
    obtain rfl := Option.some.inj h
    clear h
    obtain ⟨n, rfl⟩ : ∃ n : Nat, a0_0 = n := ⟨a0_0.toNat, by omega⟩
    have hn8 : n ≤ 8 := by omega
    clear hn
    have HR := Aside0.mk hr0_2
    have HBel := Aside0.mk bel
    clear hr0_2 bel
    go_enter Tryd.func15, Tryd.ntmps15
    go_wp2_with (go_at_call 42; refine (HC.out _).mono ?_; rintro e w1 ⟨rfl, hb'⟩; have HB1 := Aside0.mk (below_then (HBel.out _) (HBel.out _).size hb'); have HK1 := Aside0.mk (blk_below (blk_new w _) hb'); have hz0 := (blk_cell HK1.out 0).trans rfl; have hz2 := (blk_cell HK1.out 2).trans rfl; clear hb')
    go_loopg [3, 10] n (fun gk v3 v10 wr => ∃ j : Nat, j ≤ n ∧ n - j ≤ gk ∧ v10 = .int .i64 j ∧ Aside0 (Kd.R (Kd.int .i64) 3 wr w.heap.size (fun _ => True) v3 (blocksL l0_2 j)) ∧ Aside0 (wr.heap[w.heap.size]? = some (.cells #[.int .i64 n, .int .i64 a0_1, .slice A0_2 l0_2.length c0_2] 33 (0, 0))) ∧ Aside0 (Below w.heap.size w wr))
    case atStart => exact ⟨0, Nat.zero_le _, by omega, rfl, ⟨Kd.R_nil _ _ _ _ _⟩, HK1, HB1⟩
    case round =>
      clear HB1 HK1 hz0 hz2
      obtain ⟨j, hj, hg, rfl, HO, HK, HB⟩ := hrel
      by_cases hlt : j < n
      · have hltz : (j : Int) < (n : Int) := by omega
        have hz0 : wr.cell? ⟨w.heap.size, 0, none⟩ = some (.int .i64 n) := (blk_cell HK.out 0).trans rfl
        have hz2 : wr.cell? ⟨w.heap.size, 2, none⟩ = some (.slice A0_2 l0_2.length c0_2) := (blk_cell HK.out 2).trans rfl
        have hcall : ∀ (W : World) (g : Nat), Below w.heap.size w W → W.cell? ⟨g, 0, none⟩ = some (.int .i64 j) → Calls Tryd.prog 39 #[.slice A0_2 l0_2.length c0_2, .func (.func 43) #[] #[.pointer (some ⟨g, 0, none⟩)]] W fun e w' => e = .returned (.bool (l0_2.any (overB j))) ∧ Below W.heap.size W w' := fun W g hb hcell => by
          refine contGrd_calls (overB j) 43 _ _ (enters_ Tryd.func43 (by kernel_rfl) rfl) A0_2 c0_2 l0_2 W (Kd.C_below HR.out hb) hc0_2 (fun W' x _ hb' => ?_)
          exact overB_calls j g x.f0 x.f1 x.f2 x.f3 x.f4 W' ((hb'.cell (World.block_lt_of_cell? W _ hcell)).trans hcell)
        have hlen := blocksL_le l0_2 j
        have hlw : w.heap.size < wr.heap.size := blk_lt HK.out
        have hne : ¬ w.heap.size = wr.heap.size := by omega
        cases hq : l0_2.any (overB j) with
        | true =>
          rw [hq] at hcall
          have HCC := Aside0.mk hcall
          have HE := Aside0.mk (show blocksL l0_2 (j + 1) = blocksL l0_2 j by rw [blocksL, if_pos hq])
          clear hcall hq hlen
          go_wp2_with (first | (go_at_call 39; refine (HCC.out _ wr.heap.size (below_alloc HB.out _) (cell_of_one (blk_new wr _))).mono ?_; rintro e w5 ⟨rfl, hb5⟩; have hz19 : w5.cell? ⟨wr.heap.size, 0, none⟩ = some (.int .i64 j) := cell_of_one (blk_below (blk_new wr _) hb5); have HB5 := Aside0.mk (below_then (below_alloc (Below.refl wr.heap.size wr) _) (below_alloc (Below.refl wr.heap.size wr) _).size hb5); clear hb5))
          go_roundg (n - (j + 1))
          case measure => omega
          case rel =>
            exact ⟨j + 1, by omega, by omega, by go_num, ⟨by rw [HE.out]; exact Kd.R_below HO.out HB5.out⟩, ⟨blk_below HK.out HB5.out⟩, ⟨below_step HB.out HB5.out⟩⟩
        | false =>
          rw [hq] at hcall
          have HCC := Aside0.mk hcall
          have HE := Aside0.mk (show blocksL l0_2 (j + 1) = blocksL l0_2 j ++ [(j : Int)] by rw [blocksL, if_neg (by rw [hq]; simp)])
          have HL := Aside0.mk hlen
          clear hcall hq hlen
          go_wp2_with (first | (go_at_call 39; refine (HCC.out _ wr.heap.size (below_alloc HB.out _) (cell_of_one (blk_new wr _))).mono ?_; rintro e w5 ⟨rfl, hb5⟩; have hz19 : w5.cell? ⟨wr.heap.size, 0, none⟩ = some (.int .i64 j) := cell_of_one (blk_below (blk_new wr _) hb5); have HB5 := Aside0.mk (below_then (below_alloc (Below.refl wr.heap.size wr) _) (below_alloc (Below.refl wr.heap.size wr) _).size hb5); clear hb5) | ((with_reducible refine gate_builtin (b := .append) (xs := #[.tmp 18, .tmp 20]) rfl ?_); at_builtin; refine Kd.R_append (Kd.int .i64) (w0 := w) w.heap.size rfl (.tmp 18) (.tmp 20) 38 3 (.int .i64 0) 8 rfl Tryd.underlying38 info3 rfl (by decide) (by omega) u3 (blocksL l0_2 j) (j : Int) [.int .i64 j] (fun _ => True) (fun _ => False) rfl rfl ?aP (fun _ hk => hk.elim) ?aF ?aO ?aB ?aS ?aL ?_; (case aP => exact rfl); (case aB => exact below_step HB.out HB5.out); (case aF => exact (fun _ _ => trivial)); (case aO => exact Kd.R_below HO.out HB5.out); (case aS => exact below_size (below_step HB.out HB5.out)); (case aL => have := HL.out; omega); intro v21 w21 ho hb hg' hat; have HO2 := Aside0.mk ho; have HB2 := Aside0.mk hb; have HK2 := Aside0.mk (blk_grown (blk_below HK.out HB5.out) hg' (Kd.R_ne HO.out HK.out (by decide))); clear ho hb hg' hat))
          go_roundg (n - (j + 1))
          case measure => omega
          case rel =>
            exact ⟨j + 1, by omega, by omega, by go_num, ⟨by rw [HE.out]; exact HO2.out⟩, HK2, HB2⟩
      · have hltz : ¬ (j : Int) < (n : Int) := by omega
        obtain rfl : j = n := by omega
        go_wp2
        go_ret
        exact ⟨_, rfl, HO.out, HB.out⟩
end Go.Proofs.YtnalfnoebhmijaaDoor.Pr
namespace Go.Proofs.YtnalfnoebhmijaaDoor.Pr
open Go.RowKit Go.Proofs.YtnalfnoebhmijaaDoorW.PrintWords Go.Proofs.YtnalfnoebhmijaaDoorW.PrintLast Go.Proofs.YtnalfnoebhmijaaDoorW.PrintMore
attribute [local go_sem] max2_int min2_int max_two min_two max_three min_three max_four min_four
set_option linter.unusedVariables false
set_option linter.unusedSimpArgs false
def IsS77 (w0 W : World) (g : Nat) (f0 : List Int) (f1 : Int) : Prop := ∃ A0 c0, W.heap[g]? = some (.cells #[.slice A0 f0.length c0, .int .i64 f1] 77 (0, 0)) ∧ w0.heap.size ≤ g ∧ Kd.C (Kd.int .u8) w0 A0 f0.length f0
theorem IsS77.grown {w0 W : World} {g : Nat} {f0 : List Int} {f1 : Int} {W1 : World} {row : Option Nat} (h : IsS77 w0 W g f0 f1) (hw : W.grownBy W1 row) (hne : some g ≠ row) : IsS77 w0 W1 g f0 f1 := by
  obtain ⟨A0, c0, hb, hg, hr0⟩ := h
  exact ⟨A0, c0, blk_grown hb hw hne, hg, hr0⟩
theorem IsS77.kept {w0 W : World} {g : Nat} {f0 : List Int} {f1 : Int} {W1 : World} {S : Nat → Prop} (h : IsS77 w0 W g f0 f1) (hk : Kept W W1 S) (hne : ¬ S g) : IsS77 w0 W1 g f0 f1 := by
  obtain ⟨A0, c0, hb, hg, hr0⟩ := h
  exact ⟨A0, c0, blk_kept hb hk hne, hg, hr0⟩
theorem IsS77.below {w0 W : World} {g : Nat} {f0 : List Int} {f1 : Int} {W1 : World} (h : IsS77 w0 W g f0 f1) (hw : Below W.heap.size W W1) : IsS77 w0 W1 g f0 f1 := h.grown (grown_of_below hw none) (by simp)
theorem IsS77.alloc {w0 W : World} {g : Nat} {f0 : List Int} {f1 : Int} (h : IsS77 w0 W g f0 f1) (o : Obj) : IsS77 w0 (W.alloc o) g f0 f1 := h.below (below_alloc (Below.refl _ _) o)
theorem IsS77.drewN {w0 W : World} {g : Nat} {f0 : List Int} {f1 : Int} (h : IsS77 w0 W g f0 f1) (m : Nat) : IsS77 w0 (W.drewN m) g f0 f1 := h
theorem IsS77.drew {w0 W : World} {g : Nat} {f0 : List Int} {f1 : Int} (h : IsS77 w0 W g f0 f1) : IsS77 w0 W.drew g f0 f1 := h
theorem IsS77.at_ {w0 W : World} {g : Nat} {f0 : List Int} {f1 : Int} {w' : World} {m : Nat} (hq : W.drewN m = w') (h : IsS77 w0 W g f0 f1) : IsS77 w0 w' g f0 f1 := by subst hq; exact IsS77.drewN h m
theorem IsS77.apart {w0 W : World} {g : Nat} {f0 : List Int} {f1 : Int} {α : Type} {d : Kd α} {e : Nat} {base : Nat} {ok : Nat → Prop} {v : Value} {xs : List α} (h : IsS77 w0 W g f0 f1) (ho : d.R e W base ok v xs) (ht : ∀ q, q ∈ e :: d.E → q ≠ 77) : d.R e W base (fun k => ok k ∧ k ≠ g) v xs := by
  obtain ⟨A0, c0, hb, hg, hr0⟩ := h
  exact Kd.R_types ho hb ht
theorem IsS77.own_ne {w0 W : World} {g : Nat} {f0 : List Int} {f1 : Int} {α : Type} {d : Kd α} {e : Nat} {base : Nat} {ok : Nat → Prop} {v : Value} {xs : List α} (h : IsS77 w0 W g f0 f1) (ho : d.R e W base ok v xs) (ht : e ≠ 77) : some g ≠ v.ownBlock := by
  obtain ⟨A0, c0, hb, hg, hr0⟩ := h
  exact Kd.R_ne ho hb ht
theorem IsS77.apartS {w0 W : World} {g : Nat} {f0 : List Int} {f1 : Int} {α : Type} {d : Kd α} {e : Nat} {base : Nat} {ok : Nat → Prop} {v : Value} {xs : List α} (h : IsS77 w0 W g f0 f1) (ho : d.S e W base ok v xs) (ht : ∀ q, q ∈ e :: d.E → q ≠ 77) : d.S e W base (fun k => ok k ∧ k ≠ g) v xs := by
  obtain ⟨A0, c0, hb, hg, hr0⟩ := h
  exact Kd.S_types ho hb ht
theorem IsS77.own_neS {w0 W : World} {g : Nat} {f0 : List Int} {f1 : Int} {α : Type} {d : Kd α} {e : Nat} {base : Nat} {ok : Nat → Prop} {v : Value} {xs : List α} (h : IsS77 w0 W g f0 f1) (ho : d.S e W base ok v xs) (ht : e ≠ 77) : some g ≠ v.ownBlock := by
  obtain ⟨A0, c0, hb, hg, hr0⟩ := h
  exact Kd.S_ne ho hb ht
theorem IsS77.lt {w0 W : World} {g : Nat} {f0 : List Int} {f1 : Int} (h : IsS77 w0 W g f0 f1) : g < W.heap.size := by
  obtain ⟨A0, c0, hb, hg, hr0⟩ := h
  exact blk_lt hb
theorem IsS77.ge {w0 W : World} {g : Nat} {f0 : List Int} {f1 : Int} (h : IsS77 w0 W g f0 f1) : w0.heap.size ≤ g := by
  obtain ⟨A0, c0, hb, hg, hr0⟩ := h
  exact hg
theorem IsS77.ne_blk {w0 W : World} {g : Nat} {f0 : List Int} {f1 : Int} {a : Nat} {cs : Array Value} {t : TypeId} {fr : Nat × Nat} (h : IsS77 w0 W g f0 f1) (hb2 : W.heap[a]? = some (.cells cs t fr)) (ht : t ≠ 77) : g ≠ a := by
  obtain ⟨A0, c0, hb, hg, hr0⟩ := h
  rintro rfl
  rw [hb] at hb2
  injection hb2 with hb2
  injection hb2 with _ ht2
  exact ht ht2.symm
theorem IsS77.far {w0 W : World} {g : Nat} {f0 : List Int} {f1 : Int} {p : Addr} (h : IsS77 w0 W g f0 f1) (hne : g ≠ p.block) (u : Value) : IsS77 w0 (W.setCell p u) g f0 f1 := by
  obtain ⟨A0, c0, hb, hg, hr0⟩ := h
  exact ⟨A0, c0, blk_far hb hne u, hg, hr0⟩
theorem cellS77_0 {W : World} {g : Nat} {A0 : Option Addr} {c0 : Nat} {f0 : List Int} {f1 : Int} (h : W.heap[g]? = some (.cells #[.slice A0 f0.length c0, .int .i64 f1] 77 (0, 0))) : W.cell? ⟨g, 0, none⟩ = some (.slice A0 f0.length c0) := (blk_cell h 0).trans rfl
theorem cellS77_1 {W : World} {g : Nat} {A0 : Option Addr} {c0 : Nat} {f0 : List Int} {f1 : Int} (h : W.heap[g]? = some (.cells #[.slice A0 f0.length c0, .int .i64 f1] 77 (0, 0))) : W.cell? ⟨g, 1, none⟩ = some (.int .i64 f1) := (blk_cell h 1).trans rfl
theorem IsS77.set_1 {w0 W : World} {g : Nat} {f0 : List Int} {f1 : Int} (h : IsS77 w0 W g f0 f1) (x : Int) : IsS77 w0 (W.setCell ⟨g, 1, none⟩ (.int .i64 x)) g f0 x := by
  obtain ⟨A0, c0, hb, hg, hr0⟩ := h
  exact ⟨A0, c0, by simpa using blk_set hb 1 (.int .i64 x), hg, hr0⟩
def spec_l20Rd_pick.j0 : Nat → Int → Bool → List Int → Int → Option (Int × Int)
  | 0, _, _, _, _ => none
  | k + 1, x1, x24, x1000, x1001 => if x24 = true then (some (0, x1001)) else (if (wrap64 (x1001 - 1)) < (x1000.length : Int) then (if 0 ≤ (wrap64 (x1001 - 1)) then (if x1 = 0 then (none) else (some (Int.tmod (wrap64 (rd x1000 (wrap64 (x1001 - 1)))) x1, x1001))) else (none)) else (if (x1000.length : Int) = 0 then (none) else (if 0 ≤ (Int.tmod (wrap64 (x1001 - 1)) (x1000.length : Int)) then (if (Int.tmod (wrap64 (x1001 - 1)) (x1000.length : Int)) < (x1000.length : Int) then (if 0 ≤ (Int.tmod (wrap64 ((wrap64 ((wrap64 (x1001 - 1)) * 7)) + 3)) (x1000.length : Int)) then (if (Int.tmod (wrap64 ((wrap64 ((wrap64 (x1001 - 1)) * 7)) + 3)) (x1000.length : Int)) < (x1000.length : Int) then (if x1 = 0 then (none) else (some (Int.tmod (Go.bits .xor .i64 (wrap64 ((wrap64 ((wrap64 ((wrap64 ((wrap64 (rd x1000 (Int.tmod (wrap64 (x1001 - 1)) (x1000.length : Int)))) * 131)) + (wrap64 ((wrap64 (rd x1000 (Int.tmod (wrap64 ((wrap64 ((wrap64 (x1001 - 1)) * 7)) + 3)) (x1000.length : Int)))) * 1117)))) + (wrap64 ((wrap64 (x1001 - 1)) * 29)))) + (wrap64 ((wrap64 (Int.tdiv (wrap64 (x1001 - 1)) (x1000.length : Int))) * 53)))) (wrap64 (Int.tdiv (wrap64 ((wrap64 ((wrap64 ((wrap64 ((wrap64 (rd x1000 (Int.tmod (wrap64 (x1001 - 1)) (x1000.length : Int)))) * 131)) + (wrap64 ((wrap64 (rd x1000 (Int.tmod (wrap64 ((wrap64 ((wrap64 (x1001 - 1)) * 7)) + 3)) (x1000.length : Int)))) * 1117)))) + (wrap64 ((wrap64 (x1001 - 1)) * 29)))) + (wrap64 ((wrap64 (Int.tdiv (wrap64 (x1001 - 1)) (x1000.length : Int))) * 53)))) 64))) x1, x1001))) else (none)) else (none)) else (none)) else (none))))
def spec_l20Rd_pick.f (k : Nat) (s0_0 : List Int) (s0_1 : Int) (a1 : Int) : Option (Int × Int) := if a1 < 1 then (spec_l20Rd_pick.j0 k a1 true s0_0 (wrap64 (s0_1 + 1))) else (spec_l20Rd_pick.j0 k a1 ((s0_0.length : Int) == 0) s0_0 (wrap64 (s0_1 + 1)))
theorem bj45_ {b : Nat} {w W W' : World} (h : Below b w W) (e : Below b w W → Below b w W' := by intro h_; repeat (first | (with_reducible first | exact h_ | apply below_alloc | apply pw_below_drewN | apply below_drew1 | refine below_set ?_ (Aside0.out (by assumption)) | refine below_set ?_ (IsS77.ge (Aside0.out (by assumption)))) | exact h_)) : Below b w W' := e h
theorem is45_ {p q : Prop} (h : p) (e : p → q := by intro h_; repeat (first | (with_reducible first | exact h_ | apply IsS77.alloc | apply IsS77.drew | apply IsS77.drewN | apply IsS77.set_1 | refine IsS77.far ?_ (Aside0.out (by assumption)) _) | exact h_)) : q := e h
set_option maxHeartbeats 8000000 in
set_option maxRecDepth 100000 in
theorem spec_l20Rd_pick.calls (k : Nat) (g : Nat) (s0_0 : List Int) (s0_1 : Int) (a1 : Int) (r1 : Int) (r2 : Int) (w0 w : World) (hI : IsS77 w0 w g s0_0 s0_1) (hB : Below w0.heap.size w0 w) (h : spec_l20Rd_pick.f k s0_0 s0_1 a1 = some (r1, r2)) :
  Calls Tryd.prog 45 #[.pointer (some ⟨g, 0, none⟩), .int .i64 a1] w fun e w' => e = .returned (.int .i64 r1) ∧ IsS77 w0 w' g s0_0 r2 ∧ Below w0.heap.size w0 w' ∧ KeepBut w w' g none := by
 have HI0 := Aside0.mk hI;have HK := Aside0.mk (KeepBut.refl w g none);have HL := Aside0.mk hB.size;clear hI;have HW0 := Aside0.mk hB.size;have HB := Aside0.mk hB;clear hB;have H := h;unfold spec_l20Rd_pick.f at H;clear h;have HC3 := Aside0.mk H;clear H;obtain ⟨a3, a5, an, aJ, aY⟩ := HI0.out;have ay := cellS77_0 an;have aD := cellS77_1 an;have aA := blk_frozen an 1;clear an aJ;go_enter Tryd.func45, Tryd.ntmps45;go_upto_region 2 with (fail);(repeat (go_quiet (fail); go_upto_region 2 with (fail)));go_cut [24] (fun v24 wc => ∃ (kq : Nat) (ad : Bool), v24 = .bool ad ∧ Aside0 (spec_l20Rd_pick.j0 kq a1 ad s0_0 (wrap64 (s0_1 + 1)) = some (r1, r2)) ∧ Aside0 (kq ≤ k) ∧ Aside0 (IsS77 w0 wc g s0_0 (wrap64 (s0_1 + 1))) ∧ Aside0 (KeepBut w wc g none) ∧ Aside0 (Below w0.heap.size w0 wc));(case first => have H := HC3.out;clear HC3;by_cases c5 : a1 < 1;(·rw [if_pos c5] at H;have ac : decide (a1 < 1) = true := decide_eq_true c5;clear c5;(first | rw [ac] | (simp only [i64_w, i32_w]; rw [ac]) | skip);have H' := Aside0.mk H;clear H;go_wp2;(repeat (go_quiet (fail); try go_wp2));go_meet;(case rel => exact ⟨_, (true), (by first | rfl | (simp; done) | (simp [*]; done)), H', ⟨by first | omega | exact Nat.le_refl _⟩, ⟨is45_ HI0.out⟩, ⟨kk_ HK.out⟩, ⟨bj45_ HB.out⟩⟩));rw [if_neg c5] at H;have ac : decide (a1 < 1) = false := decide_eq_false c5;clear c5;(first | rw [ac] | (simp only [i64_w, i32_w]; rw [ac]) | skip);have H' := Aside0.mk H;clear H;obtain ⟨aZ, a4, al, aK, a6⟩ := HI0.out;have aB := cellS77_0 al;have aC := cellS77_1 al;have aE := blk_frozen al 1;clear al aK;go_wp2;(repeat (go_quiet (fail); try go_wp2));go_meet;(case rel => exact ⟨_, (((s0_0.length : Int) == 0)), (by first | rfl | (simp; done) | (simp [*]; done)), H', ⟨by first | omega | exact Nat.le_refl _⟩, ⟨is45_ HI0.out⟩, ⟨kk_ HK.out⟩, ⟨bj45_ HB.out⟩⟩))
 case rest =>
  clear HC3;(try clear p2);(try clear c4);(try clear c5);(try clear ac);(try clear p6);(try clear ay);(try clear aD);(try clear aB);(try clear aC);(try clear aA);(try clear aE);obtain ⟨kq, ad, rfl, HA, HJ2, HI0, HK, HB⟩ := hcut
  cases kq with
   | zero => exact absurd HA.out (by simp [spec_l20Rd_pick.j0])
   | succ kj2 =>
    have H := HA.out;clear HA;simp only [spec_l20Rd_pick.j0] at H;by_cases c7 : ad = true;(·subst c7;(have H1 : (some (0, (wrap64 (s0_1 + 1)))) = some (r1, r2) := by rw [if_pos rfl] at H; exact H);clear H;have H := H1;clear H1;simp only [Option.some.injEq, Prod.mk.injEq] at H;obtain ⟨rfl, rfl⟩ := H;go_wp2;(repeat (go_quiet (fail); try go_wp2));go_ret;exact ⟨by first | rfl | (simp [errW_none, errW_some] <;> rfl) | (simp [*, errW_none, errW_some] <;> rfl), is45_ HI0.out, bj45_ HB.out, kk_ HK.out⟩)
    replace c7 := Bool.eq_false_iff.mpr c7;subst c7;(have H1 : (if (wrap64 ((wrap64 (s0_1 + 1)) - 1)) < (s0_0.length : Int) then (if 0 ≤ (wrap64 ((wrap64 (s0_1 + 1)) - 1)) then (if a1 = 0 then (none) else (some (Int.tmod (wrap64 (rd s0_0 (wrap64 ((wrap64 (s0_1 + 1)) - 1)))) a1, (wrap64 (s0_1 + 1))))) else (none)) else (if (s0_0.length : Int) = 0 then (none) else (if 0 ≤ (Int.tmod (wrap64 ((wrap64 (s0_1 + 1)) - 1)) (s0_0.length : Int)) then (if (Int.tmod (wrap64 ((wrap64 (s0_1 + 1)) - 1)) (s0_0.length : Int)) < (s0_0.length : Int) then (if 0 ≤ (Int.tmod (wrap64 ((wrap64 ((wrap64 ((wrap64 (s0_1 + 1)) - 1)) * 7)) + 3)) (s0_0.length : Int)) then (if (Int.tmod (wrap64 ((wrap64 ((wrap64 ((wrap64 (s0_1 + 1)) - 1)) * 7)) + 3)) (s0_0.length : Int)) < (s0_0.length : Int) then (if a1 = 0 then (none) else (some (Int.tmod (Go.bits .xor .i64 (wrap64 ((wrap64 ((wrap64 ((wrap64 ((wrap64 (rd s0_0 (Int.tmod (wrap64 ((wrap64 (s0_1 + 1)) - 1)) (s0_0.length : Int)))) * 131)) + (wrap64 ((wrap64 (rd s0_0 (Int.tmod (wrap64 ((wrap64 ((wrap64 ((wrap64 (s0_1 + 1)) - 1)) * 7)) + 3)) (s0_0.length : Int)))) * 1117)))) + (wrap64 ((wrap64 ((wrap64 (s0_1 + 1)) - 1)) * 29)))) + (wrap64 ((wrap64 (Int.tdiv (wrap64 ((wrap64 (s0_1 + 1)) - 1)) (s0_0.length : Int))) * 53)))) (wrap64 (Int.tdiv (wrap64 ((wrap64 ((wrap64 ((wrap64 ((wrap64 (rd s0_0 (Int.tmod (wrap64 ((wrap64 (s0_1 + 1)) - 1)) (s0_0.length : Int)))) * 131)) + (wrap64 ((wrap64 (rd s0_0 (Int.tmod (wrap64 ((wrap64 ((wrap64 ((wrap64 (s0_1 + 1)) - 1)) * 7)) + 3)) (s0_0.length : Int)))) * 1117)))) + (wrap64 ((wrap64 ((wrap64 (s0_1 + 1)) - 1)) * 29)))) + (wrap64 ((wrap64 (Int.tdiv (wrap64 ((wrap64 (s0_1 + 1)) - 1)) (s0_0.length : Int))) * 53)))) 64))) a1, (wrap64 (s0_1 + 1))))) else (none)) else (none)) else (none)) else (none)))) = some (r1, r2) := by rw [if_neg (show ¬ (false = true) by decide)] at H; exact H);clear H;have H := H1;clear H1;by_cases c8 : (wrap64 ((wrap64 (s0_1 + 1)) - 1)) < (s0_0.length : Int)
    (·rw [if_pos c8] at H;have az : decide ((wrap64 ((wrap64 (s0_1 + 1)) - 1)) < (s0_0.length : Int)) = true := decide_eq_true c8;clear c8;obtain ⟨ji9, ag⟩ : ∃ j_ : Int, (wrap64 ((wrap64 (s0_1 + 1)) - 1)) = j_ := ⟨_, rfl⟩;(replace H : (if 0 ≤ (ji9) then (if a1 = 0 then (none) else (some (Int.tmod (wrap64 (rd s0_0 (ji9))) a1, (wrap64 (s0_1 + 1))))) else (none)) = some (r1, r2) := by first | (rw [ag] at H; exact H) | (simp only [ag] at H ⊢; exact H));(try rw [ag] at az);have hji9w : (IntKind.i64.wrap ((wrap64 (s0_1 + 1)) - 1)) = ji9 := (i64_w _).trans ag;by_cases c10 : 0 ≤ (ji9);(·rw [if_pos c10] at H;have c10b0 : decide (0 ≤ (ji9)) = true := decide_eq_true c10;clear c10;by_cases c11 : a1 = 0;(·rw [if_pos c11] at H;exact absurd H (by simp));rw [if_neg c11] at H;have c11b0 : (a1 == 0) = false := beq_eq_false_iff_ne.mpr c11;have c11b1 : (a1 != 0) = true := bne_iff_ne.mpr c11;simp only [Option.some.injEq, Prod.mk.injEq] at H;obtain ⟨rfl, rfl⟩ := H;obtain ⟨aS, aT, ae, aG, ax⟩ := HI0.out;have aR := cellS77_0 ae;have aU := cellS77_1 ae;have aW := blk_frozen ae 1;clear ae aG;have av : 0 ≤ ((ji9) : Int) := dq_;have ar : (ji9) < (s0_0.length : Int) := dq_;obtain ⟨ad101, aL, ah⟩ := Kd.at_int ax (ji9) av ar;cases aL;replace ah := pw_cell_below HB.out ah;replace av := eq_true av;replace ar := eq_true ar;go_wp2;(repeat (go_quiet (fail); try go_wp2));go_ret;exact ⟨by first | rfl | (simp [errW_none, errW_some] <;> rfl) | (simp only [← ag]; first | rfl | (simp [errW_none, errW_some] <;> rfl)) | (simp [*, errW_none, errW_some] <;> rfl), is45_ HI0.out, bj45_ HB.out, kk_ HK.out⟩);rw [if_neg c10] at H;exact absurd H (by simp))
    rw [if_neg c8] at H;have az : decide ((wrap64 ((wrap64 (s0_1 + 1)) - 1)) < (s0_0.length : Int)) = false := decide_eq_false c8;clear c8;by_cases c13 : (s0_0.length : Int) = 0;(·rw [if_pos c13] at H;exact absurd H (by simp))
    rw [if_neg c13] at H;have c13b0 : ((s0_0.length : Int) == 0) = false := beq_eq_false_iff_ne.mpr c13;have c13b1 : ((s0_0.length : Int) != 0) = true := bne_iff_ne.mpr c13;(have c13b2 : ¬ (s0_0 = []) := fun h_ => c13 (by rw [h_]; rfl));obtain ⟨aa, am⟩ : ∃ j_ : Int, (Int.tmod (wrap64 ((wrap64 (s0_1 + 1)) - 1)) (s0_0.length : Int)) = j_ := ⟨_, rfl⟩;(replace H : (if 0 ≤ (aa) then (if (aa) < (s0_0.length : Int) then (if 0 ≤ (Int.tmod (wrap64 ((wrap64 ((wrap64 ((wrap64 (s0_1 + 1)) - 1)) * 7)) + 3)) (s0_0.length : Int)) then (if (Int.tmod (wrap64 ((wrap64 ((wrap64 ((wrap64 (s0_1 + 1)) - 1)) * 7)) + 3)) (s0_0.length : Int)) < (s0_0.length : Int) then (if a1 = 0 then (none) else (some (Int.tmod (Go.bits .xor .i64 (wrap64 ((wrap64 ((wrap64 ((wrap64 ((wrap64 (rd s0_0 (aa))) * 131)) + (wrap64 ((wrap64 (rd s0_0 (Int.tmod (wrap64 ((wrap64 ((wrap64 ((wrap64 (s0_1 + 1)) - 1)) * 7)) + 3)) (s0_0.length : Int)))) * 1117)))) + (wrap64 ((wrap64 ((wrap64 (s0_1 + 1)) - 1)) * 29)))) + (wrap64 ((wrap64 (Int.tdiv (wrap64 ((wrap64 (s0_1 + 1)) - 1)) (s0_0.length : Int))) * 53)))) (wrap64 (Int.tdiv (wrap64 ((wrap64 ((wrap64 ((wrap64 ((wrap64 (rd s0_0 (aa))) * 131)) + (wrap64 ((wrap64 (rd s0_0 (Int.tmod (wrap64 ((wrap64 ((wrap64 ((wrap64 (s0_1 + 1)) - 1)) * 7)) + 3)) (s0_0.length : Int)))) * 1117)))) + (wrap64 ((wrap64 ((wrap64 (s0_1 + 1)) - 1)) * 29)))) + (wrap64 ((wrap64 (Int.tdiv (wrap64 ((wrap64 (s0_1 + 1)) - 1)) (s0_0.length : Int))) * 53)))) 64))) a1, (wrap64 (s0_1 + 1))))) else (none)) else (none)) else (none)) else (none)) = some (r1, r2) := by first | (rw [am] at H; exact H) | (simp only [am] at H ⊢; exact H));by_cases c15 : 0 ≤ (aa)
    ·rw [if_pos c15] at H;have c15b0 : decide (0 ≤ (aa)) = true := decide_eq_true c15;clear c15;by_cases c16 : (aa) < (s0_0.length : Int)
     ·rw [if_pos c16] at H;have c16b0 : decide ((aa) < (s0_0.length : Int)) = true := decide_eq_true c16;clear c16;obtain ⟨ab, ao⟩ : ∃ j_ : Int, (Int.tmod (wrap64 ((wrap64 ((wrap64 ((wrap64 (s0_1 + 1)) - 1)) * 7)) + 3)) (s0_0.length : Int)) = j_ := ⟨_, rfl⟩;(replace H : (if 0 ≤ (ab) then (if (ab) < (s0_0.length : Int) then (if a1 = 0 then (none) else (some (Int.tmod (Go.bits .xor .i64 (wrap64 ((wrap64 ((wrap64 ((wrap64 ((wrap64 (rd s0_0 (aa))) * 131)) + (wrap64 ((wrap64 (rd s0_0 (ab))) * 1117)))) + (wrap64 ((wrap64 ((wrap64 (s0_1 + 1)) - 1)) * 29)))) + (wrap64 ((wrap64 (Int.tdiv (wrap64 ((wrap64 (s0_1 + 1)) - 1)) (s0_0.length : Int))) * 53)))) (wrap64 (Int.tdiv (wrap64 ((wrap64 ((wrap64 ((wrap64 ((wrap64 (rd s0_0 (aa))) * 131)) + (wrap64 ((wrap64 (rd s0_0 (ab))) * 1117)))) + (wrap64 ((wrap64 ((wrap64 (s0_1 + 1)) - 1)) * 29)))) + (wrap64 ((wrap64 (Int.tdiv (wrap64 ((wrap64 (s0_1 + 1)) - 1)) (s0_0.length : Int))) * 53)))) 64))) a1, (wrap64 (s0_1 + 1))))) else (none)) else (none)) = some (r1, r2) := by first | (rw [ao] at H; exact H) | (simp only [ao] at H ⊢; exact H));by_cases c18 : 0 ≤ (ab)
      (·rw [if_pos c18] at H;have c18b0 : decide (0 ≤ (ab)) = true := decide_eq_true c18;clear c18;by_cases c19 : (ab) < (s0_0.length : Int);(·rw [if_pos c19] at H;have c19b0 : decide ((ab) < (s0_0.length : Int)) = true := decide_eq_true c19;clear c19;by_cases c20 : a1 = 0;(·rw [if_pos c20] at H;exact absurd H (by simp));rw [if_neg c20] at H;have c20b0 : (a1 == 0) = false := beq_eq_false_iff_ne.mpr c20;have c20b1 : (a1 != 0) = true := bne_iff_ne.mpr c20;simp only [Option.some.injEq, Prod.mk.injEq] at H;obtain ⟨rfl, rfl⟩ := H;obtain ⟨aP, aQ, af, aF, ai⟩ := HI0.out;have aV := cellS77_0 af;have aO := cellS77_1 af;have aX := blk_frozen af 1;clear af aF;have aw : 0 ≤ ((aa) : Int) := dq_;have au : (aa) < (s0_0.length : Int) := dq_;obtain ⟨aH, aM, ak⟩ := Kd.at_int ai (aa) aw au;cases aM;replace ak := pw_cell_below HB.out ak;replace aw := eq_true aw;replace au := eq_true au;have ap : 0 ≤ ((ab) : Int) := dq_;have aq : (ab) < (s0_0.length : Int) := dq_;obtain ⟨aI, aN, aj⟩ := Kd.at_int ai (ab) ap aq;obtain rfl : aH = aI := (by injection aN);replace aj := pw_cell_below HB.out aj;replace ap := eq_true ap;replace aq := eq_true aq;go_wp2;(repeat (go_quiet (fail); try go_wp2));go_ret;exact ⟨by first | rfl | (simp [errW_none, errW_some] <;> rfl) | (simp only [← am, ← ao]; first | rfl | (simp [errW_none, errW_some] <;> rfl)) | (simp [*, errW_none, errW_some] <;> rfl), is45_ HI0.out, bj45_ HB.out, kk_ HK.out⟩);rw [if_neg c19] at H;exact absurd H (by simp));rw [if_neg c18] at H;exact absurd H (by simp)
     rw [if_neg c16] at H;exact absurd H (by simp)
    rw [if_neg c15] at H;exact absurd H (by simp)
end Go.Proofs.YtnalfnoebhmijaaDoor.Pr
namespace Go.Proofs.YtnalfnoebhmijaaDoor.Pr
open Go.RowKit Go.Proofs.YtnalfnoebhmijaaDoorW.PrintWords Go.Proofs.YtnalfnoebhmijaaDoorW.PrintLast Go.Proofs.YtnalfnoebhmijaaDoorW.PrintMore
attribute [local go_sem] max2_int min2_int max_two min_two max_three min_three max_four min_four
set_option linter.unusedVariables false
set_option linter.unusedSimpArgs false
def spec_l20Open.f (l0 : List Int) : Option (List Int × Int) := if (l0.length : Int) > 2000 then (if 2000 ≤ (l0.length : Int) then (some (l0.take 2000, 0)) else (none)) else (some (l0, 0))
set_option maxHeartbeats 8000000 in
set_option maxRecDepth 100000 in
theorem spec_l20Open.calls (A0 : Option Addr) (c0 : Nat) (l0 : List Int) (r1 : List Int) (r2 : Int) (w0 w : World) (hB : Below w0.heap.size w0 w) (hr0 : Kd.C (Kd.int .u8) w0 A0 l0.length l0) (hc0 : l0.length ≤ c0) (h : spec_l20Open.f l0 = some (r1, r2)) :
  Calls Tryd.prog 24 #[.slice A0 l0.length c0] w fun e w' => ∃ g_ : Nat, e = .returned (.pointer (some ⟨g_, 0, none⟩)) ∧ IsS77 w0 w' g_ r1 r2 ∧ Below w0.heap.size w0 w' ∧ Below w.heap.size w w' := by
 have hu77 := Tryd.underlying77;have HR0 := Aside0.mk hr0;have HC0 := Aside0.mk hc0;clear hr0 hc0;have HBW := Aside0.mk (Below.refl w.heap.size w);have HW0 := Aside0.mk hB.size;have HB := Aside0.mk hB;clear hB;have H := h;unfold spec_l20Open.f at H;clear h;by_cases c2 : (l0.length : Int) > 2000;(·rw [if_pos c2] at H;have am : decide (2000 < (l0.length : Int)) = true := decide_eq_true c2;have al : decide (2000 < l0.length) = true := decide_eq_true (by omega);clear c2;by_cases c3 : 2000 ≤ (l0.length : Int);(·rw [if_pos c3] at H;have c3b0 := eq_true c3;have c3b1 : decide (2000 ≤ (l0.length : Int)) = true := decide_eq_true c3;clear c3;simp only [Option.some.injEq, Prod.mk.injEq] at H;obtain ⟨rfl, rfl⟩ := H;obtain ⟨i04, ae, _, af, _⟩ := info_parts info5;obtain ⟨hcut4, hA4, hC4⟩ := print_take_of (P := Tryd.prog) (Value.int .u8) 0 22 5 .i64 Tryd.underlying22 ae af A0 c0 l0 2000 (by omega) (of_decide_eq_true (by first | (with_reducible assumption) | assumption)) HC0.out;have aj := Aside0.mk (Kd.C_of_reads (h1 := fun _ => rfl) (hA4 _ (Kd.reads_of_C HR0.out)));have HC359 := Aside0.mk hC4;clear hA4 hC4 ae af;go_enter Tryd.func24, Tryd.ntmps24;(go_wp2_with (first | ((with_reducible refine gate_dst (N := 10) rfl ?_); refine bx_ 10 #[.slice A0 (l0.take 2000).length c0, .int .i64 0] 77 ?_; intro aa hg w5 hbox hb; have n0_ := Aside0.mk (below_step HBW.out hb); have n1_ := Aside0.mk (below_step (bl_ HB.out) hb); have n2_ := Aside0.mk (hbox); have n3_ := Aside0.mk ((sz_ (below_size (bl_ HBW.out)) hg : w.heap.size ≤ aa)); have n4_ := Aside0.mk ((Nat.le_trans HW0.out (sz_ (below_size (bl_ HBW.out)) hg : w.heap.size ≤ aa) : w0.heap.size ≤ aa)); clear HBW; have HBW := n0_; replace HB := n1_; have ak := n2_; have ag := n3_; have ac := n4_; clear n0_ n1_ n2_ n3_ n4_; clear hb hbox hg)));go_ret;exact ⟨_, rfl, (show IsS77 w0 _ aa (l0.take 2000) 0 from ⟨_, _, by (with_reducible repeat (first | apply blk_drewN | apply blk_drew | apply blk_alloc)); exact ak.out, ac.out, aj.out⟩), bl_ HB.out, bl_ HBW.out⟩);rw [if_neg c3] at H;exact absurd H (by simp))
 rw [if_neg c2] at H;have am : decide (2000 < (l0.length : Int)) = false := decide_eq_false c2;have al : decide (2000 < l0.length) = false := decide_eq_false (by omega);clear c2;simp only [Option.some.injEq, Prod.mk.injEq] at H;obtain ⟨rfl, rfl⟩ := H;go_enter Tryd.func24, Tryd.ntmps24;(go_wp2_with (first | ((with_reducible refine gate_dst (N := 10) rfl ?_); refine bx_ 10 #[.slice A0 l0.length c0, .int .i64 0] 77 ?_; intro ab hg w6 hbox hb; have n0_ := Aside0.mk (below_step HBW.out hb); have n1_ := Aside0.mk (below_step (bl_ HB.out) hb); have n2_ := Aside0.mk (hbox); have n3_ := Aside0.mk ((sz_ (below_size (bl_ HBW.out)) hg : w.heap.size ≤ ab)); have n4_ := Aside0.mk ((Nat.le_trans HW0.out (sz_ (below_size (bl_ HBW.out)) hg : w.heap.size ≤ ab) : w0.heap.size ≤ ab)); clear HBW; have HBW := n0_; replace HB := n1_; have ah := n2_; have ai := n3_; have ad := n4_; clear n0_ n1_ n2_ n3_ n4_; clear hb hbox hg)));go_ret;exact ⟨_, rfl, (show IsS77 w0 _ ab l0 0 from ⟨_, _, by (with_reducible repeat (first | apply blk_drewN | apply blk_drew | apply blk_alloc)); exact ah.out, ad.out, HR0.out⟩), bl_ HB.out, bl_ HBW.out⟩
end Go.Proofs.YtnalfnoebhmijaaDoor.Pr
namespace Go.Proofs.YtnalfnoebhmijaaDoor.Pr
open Go.RowKit Go.Proofs.YtnalfnoebhmijaaDoorW.PrintWords Go.Proofs.YtnalfnoebhmijaaDoorW.PrintLast Go.Proofs.YtnalfnoebhmijaaDoorW.PrintMore
attribute [local go_sem] max2_int min2_int max_two min_two max_three min_three max_four min_four
set_option linter.unusedVariables false
set_option linter.unusedSimpArgs false
def spec_l1In.f (a0 : Int) (a1 : Int) (a2 : Int) : Option (Bool) := if a0 ≥ a1 then (some (decide (a0 ≤ a2))) else (some false)
set_option maxHeartbeats 8000000 in
set_option maxRecDepth 100000 in
theorem spec_l1In.calls (a0 : Int) (a1 : Int) (a2 : Int) (r : Bool) (w : World) (h : spec_l1In.f a0 a1 a2 = some r) :
    Calls Tryd.prog 25 #[.int .i64 a0, .int .i64 a1, .int .i64 a2] w fun e w' => e = .returned (.bool r) ∧ Drawn0 w w' := by
  have H : (if a0 ≥ a1 then (some (decide (a0 ≤ a2))) else (some false)) = some r := h
  clear h
  by_cases c4 : a0 ≥ a1
  · rw [if_pos c4] at H
    have c4b0 : decide (a1 ≤ a0) = true := decide_eq_true c4
    clear c4
    obtain rfl := Option.some.inj H
    go_enter Tryd.func25, Tryd.ntmps25
    go_wp2
    go_ret
    exact ⟨by first | rfl | (simp; done) | (simp [*]; done), by repeat (first | exact Drawn0.refl _ | apply Drawn0.step)⟩
  · rw [if_neg c4] at H
    have c4b0 : decide (a1 ≤ a0) = false := decide_eq_false c4
    clear c4
    obtain rfl := Option.some.inj H
    go_enter Tryd.func25, Tryd.ntmps25
    go_wp2
    go_ret
    exact ⟨by first | rfl | (simp; done) | (simp [*]; done), by repeat (first | exact Drawn0.refl _ | apply Drawn0.step)⟩
end Go.Proofs.YtnalfnoebhmijaaDoor.Pr
namespace Go.Proofs.YtnalfnoebhmijaaDoor.Pr
open Go.RowKit Go.Proofs.YtnalfnoebhmijaaDoorW.PrintWords Go.Proofs.YtnalfnoebhmijaaDoorW.PrintLast Go.Proofs.YtnalfnoebhmijaaDoorW.PrintMore
attribute [local go_sem] max2_int min2_int max_two min_two max_three min_three max_four min_four
set_option linter.unusedVariables false
set_option linter.unusedSimpArgs false
def spec_l2Col.f (a0_0 : Int) (a0_1 : Int) : Option (Bool) := if a0_0 = 0 then (some (a0_1 == 0)) else (if a0_0 = 1 then ((spec_l1In.f a0_1 0 60).bind fun t105 => (some t105)) else (if a0_0 = 2 then ((spec_l1In.f a0_1 1 100).bind fun t106 => (some t106)) else (some false)))
set_option maxHeartbeats 8000000 in
set_option maxRecDepth 100000 in
theorem spec_l2Col.calls (a0_0 : Int) (a0_1 : Int) (r : Bool) (w : World) (h : spec_l2Col.f a0_0 a0_1 = some r) :
  Calls Tryd.prog 26 #[.agg #[.int .i64 a0_0, .int .i64 a0_1]] w fun e w' => e = .returned (.bool r) ∧ Below w.heap.size w w' := by
 have hu53 := Tryd.underlying53;have HB := Aside0.mk (Below.refl w.heap.size w);have H := h;unfold spec_l2Col.f at H;clear h;by_cases c2 : a0_0 = 0;(·rw [if_pos c2] at H;have ai : (a0_0 == 0) = true := beq_iff_eq.mpr c2;have af : (a0_0 != 0) = false := bne_eq_false_iff_eq.mpr c2;clear c2;obtain rfl := Option.some.inj H;go_enter Tryd.func26, Tryd.ntmps26;(go_wp2_with (first | ((with_reducible refine gate_dst (N := 1) rfl ?_); refine bx_ 1 #[.int .i64 a0_0, .int .i64 a0_1] 53 ?_; intro ab hg w3 hbox hb; have n0_ := Aside0.mk (below_step (bl_ HB.out) hb); have n1_ := Aside0.mk (hbox); have n2_ := Aside0.mk ((sz_ (below_size (bl_ HB.out)) hg : w.heap.size ≤ ab)); have n3_ := Aside0.mk n2_.out; replace HB := n0_; have aa := n1_; have ad := n2_; have ac := n3_; clear n0_ n1_ n2_ n3_; clear hb hbox hg; have av := c2_ aa.out)));go_ret;exact ⟨by first | rfl | (simp [errW_none, errW_some] <;> rfl) | (simp [*, errW_none, errW_some] <;> rfl), bl_ HB.out⟩)
 rw [if_neg c2] at H;have ai : (a0_0 == 0) = false := beq_eq_false_iff_ne.mpr c2;have af : (a0_0 != 0) = true := bne_iff_ne.mpr c2;by_cases c5 : a0_0 = 1;(·rw [if_pos c5] at H;have ak : (a0_0 == 1) = true := beq_iff_eq.mpr c5;have ah : (a0_0 != 1) = false := bne_eq_false_iff_eq.mpr c5;clear c5;obtain ⟨t105, A6, H⟩ := ob_ H;(try dsimp only at H);obtain rfl := Option.some.inj H;go_enter Tryd.func26, Tryd.ntmps26;(go_wp2_with (first | ((with_reducible refine gate_dst (N := 1) rfl ?_); refine bx_ 1 #[.int .i64 a0_0, .int .i64 a0_1] 53 ?_; intro ab hg w7 hbox hb; have n0_ := Aside0.mk (below_step (bl_ HB.out) hb); have n1_ := Aside0.mk (hbox); have n2_ := Aside0.mk ((sz_ (below_size (bl_ HB.out)) hg : w.heap.size ≤ ab)); have n3_ := Aside0.mk n2_.out; replace HB := n0_; have aa := n1_; have ad := n2_; have ac := n3_; clear n0_ n1_ n2_ n3_; clear hb hbox hg; have aB := c2_ aa.out) | ((with_reducible refine gate_callee (f := 25) rfl ?_); refine gl_ (some 14) Tryd.func25 #[.int .i64 a0_1, .int .i64 0, .int .i64 60] ?_; (with_reducible refine (spec_l1In.calls a0_1 0 60 t105 _ A6.out).mono ?_); rintro e w' ⟨rfl, ⟨nd, rfl⟩⟩; refine ⟨_, rfl, ?_⟩)));go_ret;exact ⟨by first | rfl | (simp [errW_none, errW_some] <;> rfl) | (simp [*, errW_none, errW_some] <;> rfl), bl_ HB.out⟩)
 rw [if_neg c5] at H;have ak : (a0_0 == 1) = false := beq_eq_false_iff_ne.mpr c5;have ah : (a0_0 != 1) = true := bne_iff_ne.mpr c5;by_cases c9 : a0_0 = 2;(·rw [if_pos c9] at H;have aj : (a0_0 == 2) = true := beq_iff_eq.mpr c9;have ag : (a0_0 != 2) = false := bne_eq_false_iff_eq.mpr c9;clear c9;obtain ⟨t106, A10, H⟩ := ob_ H;(try dsimp only at H);obtain rfl := Option.some.inj H;go_enter Tryd.func26, Tryd.ntmps26;(go_wp2_with (first | ((with_reducible refine gate_dst (N := 1) rfl ?_); refine bx_ 1 #[.int .i64 a0_0, .int .i64 a0_1] 53 ?_; intro ab hg w11 hbox hb; have n0_ := Aside0.mk (below_step (bl_ HB.out) hb); have n1_ := Aside0.mk (hbox); have n2_ := Aside0.mk ((sz_ (below_size (bl_ HB.out)) hg : w.heap.size ≤ ab)); have n3_ := Aside0.mk n2_.out; replace HB := n0_; have aa := n1_; have ad := n2_; have ac := n3_; clear n0_ n1_ n2_ n3_; clear hb hbox hg; have ao := c2_ aa.out) | (go_at_call 25; (with_reducible refine (spec_l1In.calls a0_1 1 100 t106 _ A10.out).mono ?_); rintro e w' ⟨rfl, ⟨nd, rfl⟩⟩)));go_ret;exact ⟨by first | rfl | (simp [errW_none, errW_some] <;> rfl) | (simp [*, errW_none, errW_some] <;> rfl), bl_ HB.out⟩)
 rw [if_neg c9] at H;have aj : (a0_0 == 2) = false := beq_eq_false_iff_ne.mpr c9;have ag : (a0_0 != 2) = true := bne_iff_ne.mpr c9;obtain rfl := Option.some.inj H;go_enter Tryd.func26, Tryd.ntmps26;(go_wp2_with (first | ((with_reducible refine gate_dst (N := 1) rfl ?_); refine bx_ 1 #[.int .i64 a0_0, .int .i64 a0_1] 53 ?_; intro ab hg w13 hbox hb; have n0_ := Aside0.mk (below_step (bl_ HB.out) hb); have n1_ := Aside0.mk (hbox); have n2_ := Aside0.mk ((sz_ (below_size (bl_ HB.out)) hg : w.heap.size ≤ ab)); have n3_ := Aside0.mk n2_.out; replace HB := n0_; have aa := n1_; have ad := n2_; have ac := n3_; clear n0_ n1_ n2_ n3_; clear hb hbox hg; have ap := c2_ aa.out)));go_ret;exact ⟨by first | rfl | (simp [errW_none, errW_some] <;> rfl) | (simp [*, errW_none, errW_some] <;> rfl), bl_ HB.out⟩
end Go.Proofs.YtnalfnoebhmijaaDoor.Pr
namespace Go.Proofs.YtnalfnoebhmijaaDoor.Pr
open Go.RowKit Go.Proofs.YtnalfnoebhmijaaDoorW.PrintWords Go.Proofs.YtnalfnoebhmijaaDoorW.PrintLast Go.Proofs.YtnalfnoebhmijaaDoorW.PrintMore
attribute [local go_sem] max2_int min2_int max_two min_two max_three min_three max_four min_four
set_option linter.unusedVariables false
set_option linter.unusedSimpArgs false
mutual
def spec_TxtOk.l0 : Nat → ByteArray → Int → Option (Bool)
  | 0, _, _ => none
  | k + 1, x0, x3 => if x3 < (x0.size : Int) then (if 0 ≤ x3 then (if (bt x0 x3) = 32 then (if x3 = 0 then (spec_TxtOk.j1 k x0 x3 true) else (if x3 = (wrap64 ((x0.size : Int) - 1)) then (spec_TxtOk.j1 k x0 x3 true) else (if 0 ≤ (wrap64 (x3 - 1)) then (if (wrap64 (x3 - 1)) < (x0.size : Int) then (spec_TxtOk.j1 k x0 x3 ((bt x0 (wrap64 (x3 - 1))) == 32)) else (none)) else (none)))) else (spec_TxtOk.j1 k x0 x3 false)) else (none)) else (some true)
def spec_TxtOk.j1 : Nat → ByteArray → Int → Bool → Option (Bool)
  | 0, _, _, _ => none
  | k + 1, x0, x3, x34 => if x34 = true then (some false) else (if 0 ≤ x3 then (if x3 < (x0.size : Int) then (if (bt x0 x3) = 32 then (spec_TxtOk.l0 k x0 (wrap64 (x3 + 1))) else ((spec_l1In.f (wrap64 (bt x0 x3)) 97 122).bind fun t107 => (if t107 = true then (spec_TxtOk.l0 k x0 (wrap64 (x3 + 1))) else (some false)))) else (none)) else (none))
end
def spec_TxtOk.f (k : Nat) (a0 : ByteArray) : Option (Bool) := if (a0.size : Int) > 30 then (some false) else (spec_TxtOk.l0 k a0 0)
set_option maxHeartbeats 8000000 in
set_option maxRecDepth 100000 in
theorem spec_TxtOk.calls (k : Nat) (a0 : ByteArray) (r : Bool) (w : World) (h : spec_TxtOk.f k a0 = some r) :
  Calls Tryd.prog 51 #[.string a0] w fun e w' => e = .returned (.bool r) ∧ Drawn0 w w' := by
 have H := h;unfold spec_TxtOk.f at H;clear h;by_cases c2 : (a0.size : Int) > 30;(·rw [if_pos c2] at H;have af : decide (30 < (a0.size : Int)) = true := decide_eq_true c2;have ae : decide (30 < a0.size) = true := decide_eq_true (by omega);clear c2;obtain rfl := Option.some.inj H;go_enter Tryd.func51, Tryd.ntmps51;go_wp2;go_ret;exact ⟨by first | rfl | (simp; done) | (simp [*]; done), by repeat (first | exact Drawn0.refl _ | apply Drawn0.step)⟩)
 rw [if_neg c2] at H;have af : decide (30 < (a0.size : Int)) = false := decide_eq_false c2;have ae : decide (30 < a0.size) = false := decide_eq_false (by omega);clear c2;have H' := Aside0.mk H;clear H;go_enter Tryd.func51, Tryd.ntmps51;go_wp2;go_loopg [3] k (fun kq v3 w' => ∃ (aa : Int), v3 = .int .i64 aa ∧ Aside0 (spec_TxtOk.l0 kq a0 aa = some r) ∧ Aside0 (kq ≤ k) ∧ Drawn0 w w');(case atStart => exact ⟨(0), rf_, H', ⟨Nat.le_refl _⟩, by repeat (first | exact Drawn0.refl _ | apply Drawn0.step)⟩)
 case round =>
  clear H';(try clear c2);(try clear af);(try clear ae);(try clear p2);obtain ⟨aa, rfl, HA, HK1, ⟨m1, rfl⟩⟩ := hrel
  cases gk with
   | zero => exact absurd HA.out (by simp [spec_TxtOk.l0])
   | succ k1 =>
    have H := HA.out;clear HA;simp only [spec_TxtOk.l0] at H;by_cases c3 : aa < (a0.size : Int)
    ·rw [if_pos c3] at H;have an : decide (aa < (a0.size : Int)) = true := decide_eq_true c3;clear c3;have HC4 := Aside0.mk H;clear H;go_upto_region 6 with (fail);go_cut [34] (fun v34 wc => ∃ (kq : Nat) (ad : Bool), v34 = .bool ad ∧ Aside0 (spec_TxtOk.j1 kq a0 aa ad = some r) ∧ Aside0 (kq ≤ k1) ∧ Drawn0 w wc)
     case first =>
      have H := HC4.out;clear HC4;by_cases c5 : 0 ≤ aa
      ·rw [if_pos c5] at H;have ag : decide (0 ≤ aa) = true := decide_eq_true c5;clear c5;(first | rw [ag] | (simp only [i64_w, i32_w]; rw [ag]) | skip);by_cases c7 : (bt a0 aa) = 32
       ·rw [if_pos c7] at H;have ah : ((bt a0 aa) == 32) = true := beq_iff_eq.mpr c7;have al : ((bt a0 aa) != 32) = false := bne_eq_false_iff_eq.mpr c7;clear c7;by_cases c8 : aa = 0;(·rw [if_pos c8] at H;have ak : (aa == 0) = true := beq_iff_eq.mpr c8;have ao : (aa != 0) = false := bne_eq_false_iff_eq.mpr c8;clear c8;have H' := Aside0.mk H;clear H;have p6 : 0 ≤ (aa : Int) := dq_;have q6 : aa < (a0.size : Int) := dq_;have hx6 := bt_at a0 aa;replace p6 := eq_true p6;replace q6 := eq_true q6;go_wp2;go_meet;(case rel => exact ⟨_, (true), rf_, H', ⟨by have := HK1.out; first | omega | exact Nat.le_refl _⟩, by repeat (first | exact Drawn0.refl _ | apply Drawn0.step)⟩))
        rw [if_neg c8] at H;have ak : (aa == 0) = false := beq_eq_false_iff_ne.mpr c8;have ao : (aa != 0) = true := bne_iff_ne.mpr c8;by_cases c9 : aa = (wrap64 ((a0.size : Int) - 1));(·rw [if_pos c9] at H;have ap : (aa == (wrap64 ((a0.size : Int) - 1))) = true := beq_iff_eq.mpr c9;have aj : (aa != (wrap64 ((a0.size : Int) - 1))) = false := bne_eq_false_iff_eq.mpr c9;clear c9;have H' := Aside0.mk H;clear H;have p6 : 0 ≤ (aa : Int) := dq_;have q6 : aa < (a0.size : Int) := dq_;have hx6 := bt_at a0 aa;replace p6 := eq_true p6;replace q6 := eq_true q6;go_wp2;go_meet;(case rel => exact ⟨_, (true), rf_, H', ⟨by have := HK1.out; first | omega | exact Nat.le_refl _⟩, by repeat (first | exact Drawn0.refl _ | apply Drawn0.step)⟩));rw [if_neg c9] at H;have ap : (aa == (wrap64 ((a0.size : Int) - 1))) = false := beq_eq_false_iff_ne.mpr c9;have aj : (aa != (wrap64 ((a0.size : Int) - 1))) = true := bne_iff_ne.mpr c9;obtain ⟨ab, ac⟩ : ∃ j_ : Int, (wrap64 (aa - 1)) = j_ := ⟨_, rfl⟩;(replace H : (if 0 ≤ (ab) then (if (ab) < (a0.size : Int) then (spec_TxtOk.j1 k1 a0 aa ((bt a0 (ab)) == 32)) else (none)) else (none)) = some r := by first | (rw [ac] at H; exact H) | (simp only [ac] at H ⊢; exact H));have ay : (IntKind.i64.wrap (aa - 1)) = ab := (i64_w _).trans ac;by_cases c11 : 0 ≤ (ab);(·rw [if_pos c11] at H;have av : decide (0 ≤ (ab)) = true := decide_eq_true c11;clear c11;by_cases c12 : (ab) < (a0.size : Int);(·rw [if_pos c12] at H;have ar : decide ((ab) < (a0.size : Int)) = true := decide_eq_true c12;clear c12;have H' := Aside0.mk H;clear H;have p6 : 0 ≤ (aa : Int) := dq_;have q6 : aa < (a0.size : Int) := dq_;have hx6 := bt_at a0 aa;replace p6 := eq_true p6;replace q6 := eq_true q6;have p13 : 0 ≤ ((ab) : Int) := dq_;have q13 : (ab) < (a0.size : Int) := dq_;have ax := bt_at a0 (ab);replace p13 := eq_true p13;replace q13 := eq_true q13;go_wp2;go_meet;(case rel => exact ⟨_, (((bt a0 (ab)) == 32)), (by first | rfl | (simp; done) | (simp only [← ac] <;> (first | rfl | simp)) | (simp [*]; done)), H', ⟨by have := HK1.out; first | omega | exact Nat.le_refl _⟩, by repeat (first | exact Drawn0.refl _ | apply Drawn0.step)⟩));rw [if_neg c12] at H;exact absurd H (by simp));rw [if_neg c11] at H;exact absurd H (by simp)
       rw [if_neg c7] at H;have ah : ((bt a0 aa) == 32) = false := beq_eq_false_iff_ne.mpr c7;have al : ((bt a0 aa) != 32) = true := bne_iff_ne.mpr c7;have H' := Aside0.mk H;clear H;have p6 : 0 ≤ (aa : Int) := dq_;have q6 : aa < (a0.size : Int) := dq_;have hx6 := bt_at a0 aa;replace p6 := eq_true p6;replace q6 := eq_true q6;go_wp2;go_meet;(case rel => exact ⟨_, (false), rf_, H', ⟨by have := HK1.out; first | omega | exact Nat.le_refl _⟩, by repeat (first | exact Drawn0.refl _ | apply Drawn0.step)⟩)
      rw [if_neg c5] at H;exact absurd H (by simp)
     case rest =>
      clear HC4;(try clear c1);(try clear p1);(try clear q1);(try clear hx1);(try clear c2);(try clear af);(try clear ae);(try clear p2);(try clear c3);(try clear an);(try clear c5);(try clear ag);(try clear p6);(try clear q6);(try clear hx6);(try clear c7);(try clear ah);(try clear al);(try clear c8);(try clear ak);(try clear ao);(try clear c9);(try clear ap);(try clear aj);(try clear c11);(try clear av);(try clear c12);(try clear ar);(try clear p13);(try clear q13);(try clear ax);(try clear p13);(try clear p2);(try clear p6);(try clear q13);(try clear q6);obtain ⟨kq, ad, rfl, HA, HJ3, ⟨mc3, rfl⟩⟩ := hcut
      cases kq with
       | zero => exact absurd HA.out (by simp [spec_TxtOk.j1])
       | succ kj3 =>
        have H := HA.out;clear HA;simp only [spec_TxtOk.j1] at H;by_cases c14 : ad = true;(·subst c14;(have H1 : (some false) = some r := by rw [if_pos rfl] at H; exact H);clear H;have H := H1;clear H1;obtain rfl := Option.some.inj H;go_wp2;go_ret;exact ⟨by first | rfl | (simp; done) | (simp [*]; done), by repeat (first | exact Drawn0.refl _ | apply Drawn0.step)⟩)
        replace c14 := Bool.eq_false_iff.mpr c14;subst c14;(have H1 : (if 0 ≤ aa then (if aa < (a0.size : Int) then (if (bt a0 aa) = 32 then (spec_TxtOk.l0 kj3 a0 (wrap64 (aa + 1))) else ((spec_l1In.f (wrap64 (bt a0 aa)) 97 122).bind fun t107 => (if t107 = true then (spec_TxtOk.l0 kj3 a0 (wrap64 (aa + 1))) else (some false)))) else (none)) else (none)) = some r := by rw [if_neg (show ¬ (false = true) by decide)] at H; exact H);clear H;have H := H1;clear H1;by_cases c15 : 0 ≤ aa
        ·rw [if_pos c15] at H;have c15b0 : decide (0 ≤ aa) = true := decide_eq_true c15;clear c15;by_cases c16 : aa < (a0.size : Int)
         ·rw [if_pos c16] at H;have c16b0 : decide (aa < (a0.size : Int)) = true := decide_eq_true c16;clear c16;by_cases c18 : (bt a0 aa) = 32;(·rw [if_pos c18] at H;have au : ((bt a0 aa) == 32) = true := beq_iff_eq.mpr c18;have aq : ((bt a0 aa) != 32) = false := bne_eq_false_iff_eq.mpr c18;clear c18;have H' := Aside0.mk H;clear H;have p17 : 0 ≤ (aa : Int) := dq_;have q17 : aa < (a0.size : Int) := dq_;have ai := bt_at a0 aa;replace p17 := eq_true p17;replace q17 := eq_true q17;go_wp2;go_roundg kj3;(case measure => have := HK1.out; have := HJ3.out; omega);(case rel => exact ⟨(wrap64 (aa + 1)), rf_, H', ⟨by have := HK1.out; have := HJ3.out; omega⟩, by repeat (first | exact Drawn0.refl _ | apply Drawn0.step)⟩))
          rw [if_neg c18] at H;have au : ((bt a0 aa) == 32) = false := beq_eq_false_iff_ne.mpr c18;have aq : ((bt a0 aa) != 32) = true := bne_iff_ne.mpr c18;obtain ⟨t107, A20, H⟩ := ob_ H;(try dsimp only at H);by_cases c21 : t107 = true;(·subst c21;(have H1 : (spec_TxtOk.l0 kj3 a0 (wrap64 (aa + 1))) = some r := by rw [if_pos rfl] at H; exact H);clear H;have H := H1;clear H1;have H' := Aside0.mk H;clear H;have p17 : 0 ≤ (aa : Int) := dq_;have q17 : aa < (a0.size : Int) := dq_;have ai := bt_at a0 aa;replace p17 := eq_true p17;replace q17 := eq_true q17;have p19 : 0 ≤ (aa : Int) := dq_;have q19 : aa < (a0.size : Int) := dq_;have aw := bt_at a0 aa;replace p19 := eq_true p19;replace q19 := eq_true q19;(go_wp2_with (first | (go_at_call 25; (with_reducible refine (spec_l1In.calls (wrap64 (bt a0 aa)) 97 122 true _ A20.out).mono ?_); rintro e w' ⟨rfl, ⟨nd, rfl⟩⟩)));go_roundg kj3;(case measure => have := HK1.out; have := HJ3.out; omega);(case rel => exact ⟨(wrap64 (aa + 1)), rf_, H', ⟨by have := HK1.out; have := HJ3.out; omega⟩, by repeat (first | exact Drawn0.refl _ | apply Drawn0.step)⟩));replace c21 := Bool.eq_false_iff.mpr c21;subst c21;(have H1 : (some false) = some r := by rw [if_neg (show ¬ (false = true) by decide)] at H; exact H);clear H;have H := H1;clear H1;obtain rfl := Option.some.inj H;have p17 : 0 ≤ (aa : Int) := dq_;have q17 : aa < (a0.size : Int) := dq_;have ai := bt_at a0 aa;replace p17 := eq_true p17;replace q17 := eq_true q17;have p19 : 0 ≤ (aa : Int) := dq_;have q19 : aa < (a0.size : Int) := dq_;have aw := bt_at a0 aa;replace p19 := eq_true p19;replace q19 := eq_true q19;(go_wp2_with (first | (go_at_call 25; (with_reducible refine (spec_l1In.calls (wrap64 (bt a0 aa)) 97 122 false _ A20.out).mono ?_); rintro e w' ⟨rfl, ⟨nd, rfl⟩⟩)));go_ret;exact ⟨by first | rfl | (simp; done) | (simp [*]; done), by repeat (first | exact Drawn0.refl _ | apply Drawn0.step)⟩
         rw [if_neg c16] at H;exact absurd H (by simp)
        rw [if_neg c15] at H;exact absurd H (by simp)
    rw [if_neg c3] at H;have an : decide (aa < (a0.size : Int)) = false := decide_eq_false c3;clear c3;obtain rfl := Option.some.inj H;go_wp2;go_ret;exact ⟨by first | rfl | (simp; done) | (simp [*]; done), by repeat (first | exact Drawn0.refl _ | apply Drawn0.step)⟩
end Go.Proofs.YtnalfnoebhmijaaDoor.Pr
