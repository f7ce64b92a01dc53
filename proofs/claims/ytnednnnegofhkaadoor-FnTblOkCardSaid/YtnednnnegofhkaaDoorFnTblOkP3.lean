/- A part of what the claim of 'FnTblOk' leans on. -/
import Derived.Test.YtnednnnegofhkaaDoorFnTblOkP0
import Derived.Test.YtnednnnegofhkaaDoorFnTblOkShelf
import Derived.Test.YtnednnnegofhkaaDoorFnTblOkQCut
import Derived.Laws.EntriesVeiled
namespace Go.Proofs.YtnednnnegofhkaaDoor.Pr
open Go.RowKit Go.Proofs.YtnednnnegofhkaaDoorW.PrintWords Go.Proofs.YtnednnnegofhkaaDoorW.PrintLast Go.Proofs.YtnednnnegofhkaaDoorW.PrintMore
attribute [local go_sem] max2_int min2_int max_two min_two max_three min_three max_four min_four
set_option linter.unusedVariables false
set_option linter.unusedSimpArgs false
def strings_Split.f (a0 a1 : ByteArray) : Option (List ByteArray) := if a1.data.toList = [32] ∧ a0.size < 4294967281 then some (Pure.cutB a0) else none
theorem byte_one (a : ByteArray) (h : a.data.toList = [32]) : a = Pure.blank1 := by
  have : a.data = #[32] := by rw [← Array.toArray_toList (xs := a.data), h]
  cases a with | mk d => simp only at this; subst this; rfl
theorem cutB_length (s : ByteArray) : (Pure.cutB s).length = s.data.toList.count 32 + 1 := by rw [Pure.cutB, List.length_map, Pure.cutL_length]
set_option maxHeartbeats 2000000 in
theorem split_calls (s : ByteArray) (w : World) (hs : s.size < 4294967281) :
    Calls Tryd.prog 42 #[.string s, .string Pure.blank1] w fun e w' =>
      e = .returned (.slice (some ⟨w.heap.size, 0, none⟩) (Pure.cutB s).length (Pure.cutB s).length) ∧ w' = w.alloc (.cells ((Pure.cutB s).map Value.string).toArray 9) := by
  have hN : ((Pure.cutB s).length : Int) = min (if (-1 : Int) < 0 then (Go.Lib.countB s Pure.blank1 : Int) + 1 else -1) ((s.size : Int) + 1) := by
    have h1 := Go.Lib.countB_le Pure.blank1 (by decide) s.size s (Nat.le_refl _)
    rw [cutB_length, Pure.countB_blank] at *
    rw [if_pos (by decide)]; omega
  have hl : (Pure.cutB s).length - 1 = Go.Lib.countB s Pure.blank1 := by rw [cutB_length, Pure.countB_blank]; omega
  have c := Any.strings_genSplit_core { Tryd.lays146 with } (by kernel_rfl) s Pure.blank1 0 (-1) (Pure.cutB s).length w hs (by decide) (Nat.zero_le _)
    (fun x c hx => by have h := Any.strings_Index_one { Tryd.lays146 with } x 32 (w.alloc (.cells c (Tryd.lays146_ren.t 9))); rw [← Go.Lib.index_one] at h; exact h)
    (by have h := Any.strings_Count_one { Tryd.lays146 with } s 32 w; rw [show Go.Lib.countByte s.data.toList 32 = Go.Lib.countB s Pure.blank1 from (Go.Lib.count_one 32 _).symm] at h; exact h) (by decide) (by decide) hN
  rw [hl, Pure.splitB_cut, Go.Lib.cellsOf_full] at c
  have c2 : Calls Tryd.prog 57 #[.string s, .string Pure.blank1, .int .i64 0, .int .i64 (-1)] w fun e w' => e = .returned (.slice (some ⟨w.heap.size, 0, none⟩) (Pure.cutB s).length (Pure.cutB s).length) ∧ w' = w.alloc (.cells ((Pure.cutB s).map Value.string).toArray 9) := c
  have HC := Aside0.mk c2
  clear c c2 hN hl
  go_enter Tryd.func42, Tryd.ntmps42
  go_wp2_with (go_at_call 57; refine HC.out.mono ?_; rintro e w' ⟨rfl, hw⟩; rw [hw])
  go_ret
  exact ⟨rfl, rfl⟩
theorem strings_Split.calls (a0 a1 : ByteArray) (r : List ByteArray) (w : World) (h : strings_Split.f a0 a1 = some r) :
    Calls Tryd.prog 42 #[.string a0, .string a1] w fun e w' => ∃ v0_ : Value, e = .returned (v0_) ∧ Kd.R Kd.string 9 w' w.heap.size (fun _ => True) v0_ r ∧ Below w.heap.size w w' := by
  unfold strings_Split.f at h
  by_cases c : a1.data.toList = [32] ∧ a0.size < 4294967281
  case neg => rw [if_neg c] at h; cases h
  rw [if_pos c] at h
  obtain rfl := Option.some.inj h
  obtain rfl := byte_one a1 c.1
  refine (split_calls a0 w c.2).mono ?_
  rintro e w' ⟨rfl, rfl⟩
  have hm : (Pure.cutB a0).length ≤ maxLen := by
    have h1 := Go.Lib.countB_le Pure.blank1 (by decide) a0.size a0 (Nat.le_refl _)
    rw [Pure.countB_blank] at h1
    rw [cutB_length]; have := c.2; unfold maxLen; omega
  refine ⟨_, rfl, Kd.R_of_own ⟨by simp [encs], .inr ⟨w.heap.size, (Pure.cutB a0).length, ((Pure.cutB a0).map Value.string).toArray, rfl, Nat.le_refl _, blk_new w _, Nat.le_refl _, hm, by simp, ?_⟩⟩ (fun _ _ => trivial), below_alloc (Below.refl _ _) _⟩
  simp only [encs, Nat.mul_one]
  rw [List.take_of_length_le (by simp)]
end Go.Proofs.YtnednnnegofhkaaDoor.Pr
namespace Go.Proofs.YtnednnnegofhkaaDoor.Pr
open Go.RowKit Go.Proofs.YtnednnnegofhkaaDoorW.PrintWords Go.Proofs.YtnednnnegofhkaaDoorW.PrintLast Go.Proofs.YtnednnnegofhkaaDoorW.PrintMore
attribute [local go_sem] max2_int min2_int max_two min_two max_three min_three max_four min_four
set_option linter.unusedVariables false
set_option linter.unusedSimpArgs false
def strings_Trim.f (a0 a1 : ByteArray) : Option ByteArray := if a1.data.toList = Pure.letters26 ∧ a0.size ≤ 9223372036854775807 then some ⟨(Go.Lib.trimS a0.data.toList Pure.letters26).toArray⟩ else none
theorem strings_Trim.calls (a0 a1 : ByteArray) (r : ByteArray) (w : World) (h : strings_Trim.f a0 a1 = some r) :
    Calls Tryd.prog 43 #[.string a0, .string a1] w fun e w' => e = .returned (.string r) ∧ Below w.heap.size w w' := by
  unfold strings_Trim.f at h
  by_cases c : a1.data.toList = Pure.letters26 ∧ a0.size ≤ 9223372036854775807
  case neg => rw [if_neg c] at h; cases h
  rw [if_pos c] at h
  obtain rfl := Option.some.inj h
  have e : a1 = ⟨Pure.letters26.toArray⟩ := by
    have : a1.data = Pure.letters26.toArray := by rw [← Array.toArray_toList (xs := a1.data), c.1]
    cases a1 with | mk d => simp only at this; subst this; rfl
  subst e
  exact Any.strings_Trim_laid Tryd.lays160 (by kernel_rfl) a0 ⟨Pure.letters26.toArray⟩ w c.2 (by decide) (ascii_of_all (by decide))
end Go.Proofs.YtnednnnegofhkaaDoor.Pr
namespace Go.Proofs.YtnednnnegofhkaaDoor.Pr
open Go.RowKit Go.Proofs.YtnednnnegofhkaaDoorW.PrintWords Go.Proofs.YtnednnnegofhkaaDoorW.PrintLast Go.Proofs.YtnednnnegofhkaaDoorW.PrintMore
attribute [local go_sem] max2_int min2_int max_two min_two max_three min_three max_four min_four
set_option linter.unusedVariables false
set_option linter.unusedSimpArgs false
def impl_TxtOk.l0 : Nat → ByteArray → List ByteArray → Int → Int → Option (Bool)
  | 0, _, _, _, _ => none
  | k + 1, x0, x8, x9, x10 => if x10 < x9 then (if 0 ≤ x10 then (if x10 < (x8.length : Int) then (if (rdOf ByteArray.empty x8 x10).toList = ([] : List UInt8) then (some false) else ((strings_Trim.f (rdOf ByteArray.empty x8 x10) (⟨#[97, 98, 99, 100, 101, 102, 103, 104, 105, 106, 107, 108, 109, 110, 111, 112, 113, 114, 115, 116, 117, 118, 119, 120, 121, 122]⟩ : ByteArray)).bind fun t383 => (if t383.toList = ([] : List UInt8) then (impl_TxtOk.l0 k x0 x8 x9 (wrap64 (x10 + 1))) else (some false)))) else (none)) else (none)) else (some (decide ((x0.size : Int) ≤ 30)))
def impl_TxtOk.f (k : Nat) (a0 : ByteArray) : Option (Bool) := if a0.toList = ([] : List UInt8) then (some true) else ((strings_Split.f a0 (⟨#[32]⟩ : ByteArray)).bind fun t379 => (impl_TxtOk.l0 k a0 t379 (t379.length : Int) 0))
theorem dq21_ {p : Prop} [Decidable p] (h : decide p = true := by first | (with_reducible assumption) | assumption) : p := of_decide_eq_true h
set_option maxHeartbeats 8000000 in
set_option maxRecDepth 100000 in
theorem impl_TxtOk.calls (k : Nat) (a0 : ByteArray) (r : Bool) (w : World) (h : impl_TxtOk.f k a0 = some r) :
  Calls Tryd.prog 21 #[.string a0] w fun e w' => e = .returned (.bool r) ∧ Below w.heap.size w w' := by
 have HB := Aside0.mk (Below.refl w.heap.size w);have H := h;unfold impl_TxtOk.f at H;clear h;by_cases c2 : a0.toList = ([] : List UInt8);(·rw [if_pos c2] at H;have aj : (a0.toList == ([] : List UInt8)) = true := beq_iff_eq.mpr c2;have ai : (a0.toList != ([] : List UInt8)) = false := bne_eq_false_iff_eq.mpr c2;clear c2;obtain rfl := Option.some.inj H;go_enter Tryd.func21, Tryd.ntmps21;go_wp2;go_ret;exact ⟨by first | rfl | (simp [errW_none, errW_some] <;> rfl) | (simp [*, errW_none, errW_some] <;> rfl), by repeat (first | (with_reducible first | exact HB.out | apply below_alloc | apply pw_below_drewN | apply below_drew1) | exact HB.out)⟩)
 rw [if_neg c2] at H;have aj : (a0.toList == ([] : List UInt8)) = false := beq_eq_false_iff_ne.mpr c2;have ai : (a0.toList != ([] : List UInt8)) = true := bne_iff_ne.mpr c2;replace H := Option.bind_eq_some_iff.mp H;obtain ⟨t379, A30, H⟩ := H;(try dsimp only at H);have A3 := Aside0.mk A30;clear A30;have H' := Aside0.mk H;clear H;go_enter Tryd.func21, Tryd.ntmps21;(go_wp2_with (first | ((with_reducible refine gate_callee (f := 42) rfl ?_); refine goesL_ (some 8) rfl rfl Tryd.func42 (by kernel_rfl) rfl #[.string a0, .string (⟨#[32]⟩ : ByteArray)] rfl (by (try simp only [List.map_toArray, List.map_cons, List.map_nil]); first | done | rfl | (simp only [List.length_drop, List.length_take]; rfl)) ?_; (with_reducible refine (strings_Split.calls a0 (⟨#[32]⟩ : ByteArray) t379 _ A3.out).mono ?_); rintro e w4 ⟨v380, rfl, ho0, hb⟩; refine ⟨_, rfl, ?_⟩; have n0_ := Aside0.mk (Kd.R_lower ho0 (below_size (by repeat (first | (with_reducible first | exact HB.out | apply below_alloc | apply pw_below_drewN | apply below_drew1) | exact HB.out)))); have n1_ := Aside0.mk (below_step (by repeat (first | (with_reducible first | exact HB.out | apply below_alloc | apply pw_below_drewN | apply below_drew1) | exact HB.out)) hb); have ag := n0_; replace HB := n1_; clear n0_ n1_; (try clear hb hk hi); (try clear ho0); obtain ⟨Ao5, co5, eo5⟩ := Kd.R_slice ag.out; subst eo5)));go_loopg [10] k (fun kq v10 w' => ∃ (aa : Int), v10 = .int .i64 aa ∧ Aside0 (impl_TxtOk.l0 kq a0 t379 (t379.length : Int) aa = some r) ∧ Aside0 (kq ≤ k) ∧ Aside0 (Kd.R Kd.string 9 w' w.heap.size (fun _ => True) (.slice Ao5 t379.length co5) t379) ∧ Aside0 (Below w.heap.size w w'));(case atStart => exact ⟨(0), (by first | rfl | (simp; done) | (simp [*]; done)), H', ⟨Nat.le_refl _⟩, ⟨by (with_reducible repeat (first | apply Kd.R_alloc | apply Kd.R_drewN | apply Kd.R_drew)); exact ag.out⟩, ⟨by repeat (first | (with_reducible first | exact HB.out | apply below_alloc | apply pw_below_drewN | apply below_drew1) | exact HB.out)⟩⟩)
 case round =>
  clear H';(try clear c2);(try clear aj);(try clear ai);(try clear p2);(try clear c4);obtain ⟨aa, rfl, HA, HK1, ad, HB⟩ := hrel
  cases gk with
   | zero => exact absurd HA.out (by simp [impl_TxtOk.l0])
   | succ k1 =>
    have H := HA.out;clear HA;simp only [impl_TxtOk.l0] at H;by_cases c6 : aa < (t379.length : Int)
    ·rw [if_pos c6] at H;have ap : decide (aa < (t379.length : Int)) = true := decide_eq_true c6;clear c6;by_cases c7 : 0 ≤ aa
     ·rw [if_pos c7] at H;have c7b0 : decide (0 ≤ aa) = true := decide_eq_true c7;clear c7;by_cases c8 : aa < (t379.length : Int)
      ·rw [if_pos c8] at H;have c8b0 : decide (aa < (t379.length : Int)) = true := decide_eq_true c8;clear c8;by_cases c9 : (rdOf ByteArray.empty t379 aa).toList = ([] : List UInt8);(·rw [if_pos c9] at H;have ao : ((rdOf ByteArray.empty t379 aa).toList == ([] : List UInt8)) = true := beq_iff_eq.mpr c9;have an : ((rdOf ByteArray.empty t379 aa).toList != ([] : List UInt8)) = false := bne_eq_false_iff_eq.mpr c9;clear c9;obtain rfl := Option.some.inj H;have ac : 0 ≤ (aa : Int) := dq21_;have ab : aa < (t379.length : Int) := dq21_;obtain ⟨ah, ae, af⟩ := Kd.at_string (Kd.R_reads' ad.out).2.2 aa ac ab;cases ae;replace ac := eq_true ac;replace ab := eq_true ab;go_wp2;go_ret;exact ⟨by first | rfl | (simp [errW_none, errW_some] <;> rfl) | (simp [*, errW_none, errW_some] <;> rfl), by repeat (first | (with_reducible first | exact HB.out | apply below_alloc | apply pw_below_drewN | apply below_drew1) | exact HB.out)⟩)
       rw [if_neg c9] at H;have ao : ((rdOf ByteArray.empty t379 aa).toList == ([] : List UInt8)) = false := beq_eq_false_iff_ne.mpr c9;have an : ((rdOf ByteArray.empty t379 aa).toList != ([] : List UInt8)) = true := bne_iff_ne.mpr c9;replace H := Option.bind_eq_some_iff.mp H;obtain ⟨t383, ak, H⟩ := H;(try dsimp only at H);have A10 := Aside0.mk ak;clear ak;by_cases c11 : t383.toList = ([] : List UInt8);(·rw [if_pos c11] at H;have am : (t383.toList == ([] : List UInt8)) = true := beq_iff_eq.mpr c11;have al : (t383.toList != ([] : List UInt8)) = false := bne_eq_false_iff_eq.mpr c11;clear c11;have H' := Aside0.mk H;clear H;have ac : 0 ≤ (aa : Int) := dq21_;have ab : aa < (t379.length : Int) := dq21_;obtain ⟨ah, ae, af⟩ := Kd.at_string (Kd.R_reads' ad.out).2.2 aa ac ab;cases ae;replace ac := eq_true ac;replace ab := eq_true ab;(go_wp2_with (first | (go_at_call 43; (with_reducible refine (strings_Trim.calls (rdOf ByteArray.empty t379 aa) (⟨#[97, 98, 99, 100, 101, 102, 103, 104, 105, 106, 107, 108, 109, 110, 111, 112, 113, 114, 115, 116, 117, 118, 119, 120, 121, 122]⟩ : ByteArray) t383 _ A10.out).mono ?_); rintro e w12 ⟨rfl, hb⟩; have n0_ := Aside0.mk (Kd.R_below (by (with_reducible repeat (first | apply Kd.R_alloc | apply Kd.R_drewN | apply Kd.R_drew)); exact ad.out) hb); have n1_ := Aside0.mk (below_step (by repeat (first | (with_reducible first | exact HB.out | apply below_alloc | apply pw_below_drewN | apply below_drew1) | exact HB.out)) hb); replace ad := n0_; replace HB := n1_; clear n0_ n1_; (try clear hb hk hi))));go_roundg k1;(case measure => have := HK1.out; omega);(case rel => exact ⟨(wrap64 (aa + 1)), (by first | rfl | (simp; done) | (simp [*]; done)), H', ⟨by have := HK1.out; omega⟩, ⟨by (with_reducible repeat (first | apply Kd.R_alloc | apply Kd.R_drewN | apply Kd.R_drew)); exact ad.out⟩, ⟨by repeat (first | (with_reducible first | exact HB.out | apply below_alloc | apply pw_below_drewN | apply below_drew1) | exact HB.out)⟩⟩))
       rw [if_neg c11] at H;have am : (t383.toList == ([] : List UInt8)) = false := beq_eq_false_iff_ne.mpr c11;have al : (t383.toList != ([] : List UInt8)) = true := bne_iff_ne.mpr c11;obtain rfl := Option.some.inj H;have ac : 0 ≤ (aa : Int) := dq21_;have ab : aa < (t379.length : Int) := dq21_;obtain ⟨ah, ae, af⟩ := Kd.at_string (Kd.R_reads' ad.out).2.2 aa ac ab;cases ae;replace ac := eq_true ac;replace ab := eq_true ab;(go_wp2_with (first | (go_at_call 43; (with_reducible refine (strings_Trim.calls (rdOf ByteArray.empty t379 aa) (⟨#[97, 98, 99, 100, 101, 102, 103, 104, 105, 106, 107, 108, 109, 110, 111, 112, 113, 114, 115, 116, 117, 118, 119, 120, 121, 122]⟩ : ByteArray) t383 _ A10.out).mono ?_); rintro e w13 ⟨rfl, hb⟩; have n0_ := Aside0.mk (Kd.R_below (by (with_reducible repeat (first | apply Kd.R_alloc | apply Kd.R_drewN | apply Kd.R_drew)); exact ad.out) hb); have n1_ := Aside0.mk (below_step (by repeat (first | (with_reducible first | exact HB.out | apply below_alloc | apply pw_below_drewN | apply below_drew1) | exact HB.out)) hb); replace ad := n0_; replace HB := n1_; clear n0_ n1_; (try clear hb hk hi))));go_ret;exact ⟨by first | rfl | (simp [errW_none, errW_some] <;> rfl) | (simp [*, errW_none, errW_some] <;> rfl), by repeat (first | (with_reducible first | exact HB.out | apply below_alloc | apply pw_below_drewN | apply below_drew1) | exact HB.out)⟩
      rw [if_neg c8] at H;exact absurd H (by simp)
     rw [if_neg c7] at H;exact absurd H (by simp)
    rw [if_neg c6] at H;have ap : decide (aa < (t379.length : Int)) = false := decide_eq_false c6;clear c6;obtain rfl := Option.some.inj H;go_wp2;go_ret;exact ⟨by first | rfl | (simp [errW_none, errW_some] <;> rfl) | (simp [*, errW_none, errW_some] <;> rfl), by repeat (first | (with_reducible first | exact HB.out | apply below_alloc | apply pw_below_drewN | apply below_drew1) | exact HB.out)⟩
end Go.Proofs.YtnednnnegofhkaaDoor.Pr
namespace Go.Proofs.YtnednnnegofhkaaDoor.Pr
open Go.RowKit Go.Proofs.YtnednnnegofhkaaDoorW.PrintWords Go.Proofs.YtnednnnegofhkaaDoorW.PrintLast Go.Proofs.YtnednnnegofhkaaDoorW.PrintMore
attribute [local go_sem] max2_int min2_int max_two min_two max_three min_three max_four min_four
set_option linter.unusedVariables false
set_option linter.unusedSimpArgs false
def impl_in.f (a0 : Int) (a1 : Int) (a2 : Int) : Option (Bool) := if a0 ≥ a1 then (some (decide (a0 ≤ a2))) else (some false)
set_option maxHeartbeats 8000000 in
set_option maxRecDepth 100000 in
theorem impl_in.calls (a0 : Int) (a1 : Int) (a2 : Int) (r : Bool) (w : World) (h : impl_in.f a0 a1 a2 = some r) :
    Calls Tryd.prog 22 #[.int .i64 a0, .int .i64 a1, .int .i64 a2] w fun e w' => e = .returned (.bool r) ∧ Drawn0 w w' := by
  have H : (if a0 ≥ a1 then (some (decide (a0 ≤ a2))) else (some false)) = some r := h
  clear h
  by_cases c4 : a0 ≥ a1
  · rw [if_pos c4] at H
    have c4b0 : decide (a1 ≤ a0) = true := decide_eq_true c4
    clear c4
    obtain rfl := Option.some.inj H
    go_enter Tryd.func22, Tryd.ntmps22
    go_wp2
    go_ret
    exact ⟨by first | rfl | (simp; done) | (simp [*]; done), by repeat (first | exact Drawn0.refl _ | apply Drawn0.step)⟩
  · rw [if_neg c4] at H
    have c4b0 : decide (a1 ≤ a0) = false := decide_eq_false c4
    clear c4
    obtain rfl := Option.some.inj H
    go_enter Tryd.func22, Tryd.ntmps22
    go_wp2
    go_ret
    exact ⟨by first | rfl | (simp; done) | (simp [*]; done), by repeat (first | exact Drawn0.refl _ | apply Drawn0.step)⟩
end Go.Proofs.YtnednnnegofhkaaDoor.Pr
namespace Go.Proofs.YtnednnnegofhkaaDoor.Pr
open Go.RowKit Go.Proofs.YtnednnnegofhkaaDoorW.PrintWords Go.Proofs.YtnednnnegofhkaaDoorW.PrintLast Go.Proofs.YtnednnnegofhkaaDoorW.PrintMore
attribute [local go_sem] max2_int min2_int max_two min_two max_three min_three max_four min_four
set_option linter.unusedVariables false
set_option linter.unusedSimpArgs false
def impl_BrdLine_drawn.f (a0_0 : Int) (a0_1 : Int) : Option (Bool) := (impl_in.f a0_0 1 3).bind fun t385 => (some t385)
set_option maxHeartbeats 8000000 in
set_option maxRecDepth 100000 in
theorem impl_BrdLine_drawn.calls (a0_0 : Int) (a0_1 : Int) (r : Bool) (w : World) (h : impl_BrdLine_drawn.f a0_0 a0_1 = some r) :
    Calls Tryd.prog 44 #[.agg #[.int .i64 a0_0, .int .i64 a0_1]] w fun e w' => e = .returned (.bool r) ∧ Below w.heap.size w w' := by
  have hu35 := Tryd.underlying35
  have HB := Aside0.mk (Below.refl w.heap.size w)
  have H : ((impl_in.f a0_0 1 3).bind fun t385 => (some t385)) = some r := h
  clear h
  replace H := Option.bind_eq_some_iff.mp H
  obtain ⟨t385, A20, H⟩ := H
  replace H : (some t385) = some r := H
  have A2 := Aside0.mk A20
  clear A20
  obtain rfl := Option.some.inj H
  go_enter Tryd.func44, Tryd.ntmps44
  go_wp2_with (first | ((with_reducible refine gate_dst (N := 1) rfl ?_); refine box_event ?hg (N := 1) ?hd (cs := #[.int .i64 a0_0, .int .i64 a0_1]) (t := 35) ?hr ?_; (case hd => rfl); (case hg => rfl); (case hr => first | (go_simp; done) | (go_simp; rfl)); intro gb384 hg w3 hbox hb; have n0_ := Aside0.mk (below_step (by repeat (first | (with_reducible first | exact HB.out | apply below_alloc | apply pw_below_drewN | apply below_drew1) | exact HB.out)) hb); have n1_ := Aside0.mk (hbox); have n2_ := Aside0.mk ((by rw [hg]; exact (below_size (by repeat (first | (with_reducible first | exact HB.out | apply below_alloc | apply pw_below_drewN | apply below_drew1) | exact HB.out))) : w.heap.size ≤ gb384)); have n3_ := Aside0.mk ((by rw [hg]; exact (below_size (by repeat (first | (with_reducible first | exact HB.out | apply below_alloc | apply pw_below_drewN | apply below_drew1) | exact HB.out))) : w.heap.size ≤ gb384)); clear HB; have HB := n0_; have BK384 := n1_; have GW384 := n2_; have GE384 := n3_; clear n0_ n1_ n2_ n3_; clear hb hbox hg; have hcz4_0 : w3.cell? ⟨gb384, 0, none⟩ = some (.int .i64 a0_0) := (blk_cell BK384.out 0).trans rfl; have hcz4_1 : w3.cell? ⟨gb384, 1, none⟩ = some (.int .i64 a0_1) := (blk_cell BK384.out 1).trans rfl; have hfz4_0 := blk_frozen BK384.out 0; have hfz4_1 := blk_frozen BK384.out 1) | ((with_reducible refine gate_callee (f := 22) rfl ?_); refine goesL_ (some 5) rfl rfl Tryd.func22 (by kernel_rfl) rfl #[.int .i64 a0_0, .int .i64 1, .int .i64 3] rfl (by (try simp only [List.map_toArray, List.map_cons, List.map_nil]); first | done | rfl | (simp only [List.length_drop, List.length_take]; rfl)) ?_; (with_reducible refine (impl_in.calls a0_0 1 3 t385 _ A2.out).mono ?_); rintro e w' ⟨rfl, ⟨nd, rfl⟩⟩; refine ⟨_, rfl, ?_⟩))
  go_ret
  exact ⟨by first | rfl | (simp [errW_none, errW_some] <;> rfl) | (simp [*, errW_none, errW_some] <;> rfl), by repeat (first | (with_reducible first | exact HB.out | apply below_alloc | apply pw_below_drewN | apply below_drew1 | refine below_set ?_ GE384.out) | exact HB.out)⟩
end Go.Proofs.YtnednnnegofhkaaDoor.Pr
namespace Go.Proofs.YtnednnnegofhkaaDoor.Pr
open Go.RowKit Go.Proofs.YtnednnnegofhkaaDoorW.PrintWords Go.Proofs.YtnednnnegofhkaaDoorW.PrintLast Go.Proofs.YtnednnnegofhkaaDoorW.PrintMore
attribute [local go_sem] max2_int min2_int max_two min_two max_three min_three max_four min_four
set_option linter.unusedVariables false
set_option linter.unusedSimpArgs false
def impl_BrdOk.f (a0_0 : Int) (a0_1 : Int) : Option (Bool) := (impl_BrdLine_drawn.f a0_0 a0_1).bind fun t387 => (if t387 = true then ((impl_in.f a0_1 1 3).bind fun t388 => (some t388)) else (if a0_0 = 0 then (some (a0_1 == 0)) else (if a0_0 = 4 then (some (a0_1 == 0)) else (some false))))
theorem bq23_ {w : World} {g : Nat} {t : TypeId} {cs : Array Value} {v : Value} (h : w.heap[g]? = some (.cells cs t (0, 0))) (i : Nat) (e : cs[i]? = some v) : w.cell? ⟨g, i, none⟩ = some v := (blk_cell h i).trans e
abbrev qa23 := @Aside0.mk
abbrev qb23 := @pw_below_drewN
set_option maxHeartbeats 8000000 in
set_option maxRecDepth 100000 in
theorem impl_BrdOk.calls (a0_0 : Int) (a0_1 : Int) (r : Bool) (w : World) (h : impl_BrdOk.f a0_0 a0_1 = some r) :
  Calls Tryd.prog 23 #[.agg #[.int .i64 a0_0, .int .i64 a0_1]] w fun e w' => e = .returned (.bool r) ∧ Below w.heap.size w w' := by
 have hu35 := Tryd.underlying35;have HB := qa23 (Below.refl w.heap.size w);have H := h;unfold impl_BrdOk.f at H;clear h;replace H := Option.bind_eq_some_iff.mp H;obtain ⟨t387, A20, H⟩ := H;(try dsimp only at H);have A2 := qa23 A20;clear A20;by_cases c3 : t387 = true
 (·subst c3;(have H1 : ((impl_in.f a0_1 1 3).bind fun t388 => (some t388)) = some r := by rw [if_pos rfl] at H; exact H);clear H;have H := H1;clear H1;replace H := Option.bind_eq_some_iff.mp H;obtain ⟨t388, A40, H⟩ := H;(try dsimp only at H);have A4 := qa23 A40;clear A40;obtain rfl := Option.some.inj H;go_enter Tryd.func23, Tryd.ntmps23;(go_wp2_with (first | ((with_reducible refine gate_dst (N := 1) rfl ?_); refine box_event ?hg (N := 1) ?hd (cs := #[.int .i64 a0_0, .int .i64 a0_1]) (t := 35) ?hr ?_; (case hd => rfl); (case hg => rfl); (case hr => go_simp <;> rfl); intro ac hg w5 hbox hb; have n0_ := qa23 (below_step (by repeat (first | (with_reducible first | exact HB.out | apply below_alloc | apply qb23 | apply below_drew1) | exact HB.out)) hb); have n1_ := qa23 (hbox); have n2_ := qa23 ((by rw [hg]; exact (below_size (by repeat (first | (with_reducible first | exact HB.out | apply below_alloc | apply qb23 | apply below_drew1) | exact HB.out))) : w.heap.size ≤ ac)); have n3_ := qa23 n2_.out; replace HB := n0_; have aa := n1_; have ad := n2_; have ab := n3_; clear n0_ n1_ n2_ n3_; clear hb hbox hg; have aL := bq23_ aa.out 0 rfl; have aM := bq23_ aa.out 1 rfl; have aI := blk_frozen aa.out 0; have aN := blk_frozen aa.out 1) | ((with_reducible refine gate_callee (f := 44) rfl ?_); refine goesL_ (some 4) rfl rfl Tryd.func44 (by kernel_rfl) rfl #[.agg #[.int .i64 a0_0, .int .i64 a0_1]] rfl (by (try simp only [List.map_toArray, List.map_cons, List.map_nil]); first | done | rfl | (simp only [List.length_drop, List.length_take]; rfl)) ?_; (with_reducible refine (impl_BrdLine_drawn.calls a0_0 a0_1 true _ A2.out).mono ?_); rintro e w7 ⟨rfl, hb⟩; refine ⟨_, rfl, ?_⟩; have n0_ := qa23 (blk_below (g := ac) (by (with_reducible repeat (first | apply blk_drewN | apply blk_drew | apply blk_alloc)); exact aa.out) hb); have n1_ := qa23 (below_step (by repeat (first | (with_reducible first | exact HB.out | apply below_alloc | apply qb23 | apply below_drew1 | refine below_set ?_ ab.out) | exact HB.out)) hb); replace aa := n0_; replace HB := n1_; clear n0_ n1_; (try clear hb hk hi); have aO := bq23_ aa.out 0 rfl; have aP := bq23_ aa.out 1 rfl; have aK := blk_frozen aa.out 0; have aJ := blk_frozen aa.out 1) | ((with_reducible refine gate_callee (f := 22) rfl ?_); refine goesL_ (some 7) rfl rfl Tryd.func22 (by kernel_rfl) rfl #[.int .i64 a0_1, .int .i64 1, .int .i64 3] rfl (by (try simp only [List.map_toArray, List.map_cons, List.map_nil]) <;> rfl) ?_; (with_reducible refine (impl_in.calls a0_1 1 3 t388 _ A4.out).mono ?_); rintro e w' ⟨rfl, ⟨nd, rfl⟩⟩; refine ⟨_, rfl, ?_⟩)));go_ret;exact ⟨by first | rfl | (simp [errW_none, errW_some] <;> rfl) | (simp [*, errW_none, errW_some] <;> rfl), by repeat (first | (with_reducible first | exact HB.out | apply below_alloc | apply qb23 | apply below_drew1 | refine below_set ?_ ab.out) | exact HB.out)⟩)
 replace c3 := Bool.eq_false_iff.mpr c3;subst c3;(have H1 : (if a0_0 = 0 then (some (a0_1 == 0)) else (if a0_0 = 4 then (some (a0_1 == 0)) else (some false))) = some r := by rw [if_neg (show ¬ (false = true) by decide)] at H; exact H);clear H;have H := H1;clear H1;by_cases c9 : a0_0 = 0;(·rw [if_pos c9] at H;have ah : (a0_0 == 0) = true := beq_iff_eq.mpr c9;have ag : (a0_0 != 0) = false := bne_eq_false_iff_eq.mpr c9;clear c9;obtain rfl := Option.some.inj H;go_enter Tryd.func23, Tryd.ntmps23;(go_wp2_with (first | ((with_reducible refine gate_dst (N := 1) rfl ?_); refine box_event ?hg (N := 1) ?hd (cs := #[.int .i64 a0_0, .int .i64 a0_1]) (t := 35) ?hr ?_; (case hd => rfl); (case hg => rfl); (case hr => go_simp <;> rfl); intro ac hg w10 hbox hb; have n0_ := qa23 (below_step (by repeat (first | (with_reducible first | exact HB.out | apply below_alloc | apply qb23 | apply below_drew1) | exact HB.out)) hb); have n1_ := qa23 (hbox); have n2_ := qa23 ((by rw [hg]; exact (below_size (by repeat (first | (with_reducible first | exact HB.out | apply below_alloc | apply qb23 | apply below_drew1) | exact HB.out))) : w.heap.size ≤ ac)); have n3_ := qa23 n2_.out; replace HB := n0_; have aa := n1_; have ad := n2_; have ab := n3_; clear n0_ n1_ n2_ n3_; clear hb hbox hg; have ap := bq23_ aa.out 0 rfl; have aA := bq23_ aa.out 1 rfl; have ao := blk_frozen aa.out 0; have aq := blk_frozen aa.out 1) | ((with_reducible refine gate_callee (f := 44) rfl ?_); refine goesL_ (some 4) rfl rfl Tryd.func44 (by kernel_rfl) rfl #[.agg #[.int .i64 a0_0, .int .i64 a0_1]] rfl (by (try simp only [List.map_toArray, List.map_cons, List.map_nil]); first | done | rfl | (simp only [List.length_drop, List.length_take]; rfl)) ?_; (with_reducible refine (impl_BrdLine_drawn.calls a0_0 a0_1 false _ A2.out).mono ?_); rintro e w12 ⟨rfl, hb⟩; refine ⟨_, rfl, ?_⟩; have n0_ := qa23 (blk_below (g := ac) (by (with_reducible repeat (first | apply blk_drewN | apply blk_drew | apply blk_alloc)); exact aa.out) hb); have n1_ := qa23 (below_step (by repeat (first | (with_reducible first | exact HB.out | apply below_alloc | apply qb23 | apply below_drew1 | refine below_set ?_ ab.out) | exact HB.out)) hb); replace aa := n0_; replace HB := n1_; clear n0_ n1_; (try clear hb hk hi); have ay := bq23_ aa.out 0 rfl; have ak := bq23_ aa.out 1 rfl; have an := blk_frozen aa.out 0; have aB := blk_frozen aa.out 1)));go_ret;exact ⟨by first | rfl | (simp [errW_none, errW_some] <;> rfl) | (simp [*, errW_none, errW_some] <;> rfl), by repeat (first | (with_reducible first | exact HB.out | apply below_alloc | apply qb23 | apply below_drew1 | refine below_set ?_ ab.out) | exact HB.out)⟩)
 rw [if_neg c9] at H;have ah : (a0_0 == 0) = false := beq_eq_false_iff_ne.mpr c9;have ag : (a0_0 != 0) = true := bne_iff_ne.mpr c9;by_cases c14 : a0_0 = 4;(·rw [if_pos c14] at H;have af : (a0_0 == 4) = true := beq_iff_eq.mpr c14;have ae : (a0_0 != 4) = false := bne_eq_false_iff_eq.mpr c14;clear c14;obtain rfl := Option.some.inj H;go_enter Tryd.func23, Tryd.ntmps23;(go_wp2_with (first | ((with_reducible refine gate_dst (N := 1) rfl ?_); refine box_event ?hg (N := 1) ?hd (cs := #[.int .i64 a0_0, .int .i64 a0_1]) (t := 35) ?hr ?_; (case hd => rfl); (case hg => rfl); (case hr => go_simp <;> rfl); intro ac hg w15 hbox hb; have n0_ := qa23 (below_step (by repeat (first | (with_reducible first | exact HB.out | apply below_alloc | apply qb23 | apply below_drew1) | exact HB.out)) hb); have n1_ := qa23 (hbox); have n2_ := qa23 ((by rw [hg]; exact (below_size (by repeat (first | (with_reducible first | exact HB.out | apply below_alloc | apply qb23 | apply below_drew1) | exact HB.out))) : w.heap.size ≤ ac)); have n3_ := qa23 n2_.out; replace HB := n0_; have aa := n1_; have ad := n2_; have ab := n3_; clear n0_ n1_ n2_ n3_; clear hb hbox hg; have aD := bq23_ aa.out 0 rfl; have au := bq23_ aa.out 1 rfl; have ai := blk_frozen aa.out 0; have aE := blk_frozen aa.out 1) | ((with_reducible refine gate_callee (f := 44) rfl ?_); refine goesL_ (some 4) rfl rfl Tryd.func44 (by kernel_rfl) rfl #[.agg #[.int .i64 a0_0, .int .i64 a0_1]] rfl (by (try simp only [List.map_toArray, List.map_cons, List.map_nil]); first | done | rfl | (simp only [List.length_drop, List.length_take]; rfl)) ?_; (with_reducible refine (impl_BrdLine_drawn.calls a0_0 a0_1 false _ A2.out).mono ?_); rintro e w17 ⟨rfl, hb⟩; refine ⟨_, rfl, ?_⟩; have n0_ := qa23 (blk_below (g := ac) (by (with_reducible repeat (first | apply blk_drewN | apply blk_drew | apply blk_alloc)); exact aa.out) hb); have n1_ := qa23 (below_step (by repeat (first | (with_reducible first | exact HB.out | apply below_alloc | apply qb23 | apply below_drew1 | refine below_set ?_ ab.out) | exact HB.out)) hb); replace aa := n0_; replace HB := n1_; clear n0_ n1_; (try clear hb hk hi); have al := bq23_ aa.out 0 rfl; have aj := bq23_ aa.out 1 rfl; have aG := blk_frozen aa.out 0; have az := blk_frozen aa.out 1)));go_ret;exact ⟨by first | rfl | (simp [errW_none, errW_some] <;> rfl) | (simp [*, errW_none, errW_some] <;> rfl), by repeat (first | (with_reducible first | exact HB.out | apply below_alloc | apply qb23 | apply below_drew1 | refine below_set ?_ ab.out) | exact HB.out)⟩)
 rw [if_neg c14] at H;have af : (a0_0 == 4) = false := beq_eq_false_iff_ne.mpr c14;have ae : (a0_0 != 4) = true := bne_iff_ne.mpr c14;obtain rfl := Option.some.inj H;go_enter Tryd.func23, Tryd.ntmps23;(go_wp2_with (first | ((with_reducible refine gate_dst (N := 1) rfl ?_); refine box_event ?hg (N := 1) ?hd (cs := #[.int .i64 a0_0, .int .i64 a0_1]) (t := 35) ?hr ?_; (case hd => rfl); (case hg => rfl); (case hr => go_simp <;> rfl); intro ac hg w19 hbox hb; have n0_ := qa23 (below_step (by repeat (first | (with_reducible first | exact HB.out | apply below_alloc | apply qb23 | apply below_drew1) | exact HB.out)) hb); have n1_ := qa23 (hbox); have n2_ := qa23 ((by rw [hg]; exact (below_size (by repeat (first | (with_reducible first | exact HB.out | apply below_alloc | apply qb23 | apply below_drew1) | exact HB.out))) : w.heap.size ≤ ac)); have n3_ := qa23 n2_.out; replace HB := n0_; have aa := n1_; have ad := n2_; have ab := n3_; clear n0_ n1_ n2_ n3_; clear hb hbox hg; have aw := bq23_ aa.out 0 rfl; have aF := bq23_ aa.out 1 rfl; have aH := blk_frozen aa.out 0; have ax := blk_frozen aa.out 1) | ((with_reducible refine gate_callee (f := 44) rfl ?_); refine goesL_ (some 4) rfl rfl Tryd.func44 (by kernel_rfl) rfl #[.agg #[.int .i64 a0_0, .int .i64 a0_1]] rfl (by (try simp only [List.map_toArray, List.map_cons, List.map_nil]); first | done | rfl | (simp only [List.length_drop, List.length_take]; rfl)) ?_; (with_reducible refine (impl_BrdLine_drawn.calls a0_0 a0_1 false _ A2.out).mono ?_); rintro e w21 ⟨rfl, hb⟩; refine ⟨_, rfl, ?_⟩; have n0_ := qa23 (blk_below (g := ac) (by (with_reducible repeat (first | apply blk_drewN | apply blk_drew | apply blk_alloc)); exact aa.out) hb); have n1_ := qa23 (below_step (by repeat (first | (with_reducible first | exact HB.out | apply below_alloc | apply qb23 | apply below_drew1 | refine below_set ?_ ab.out) | exact HB.out)) hb); replace aa := n0_; replace HB := n1_; clear n0_ n1_; (try clear hb hk hi); have av := bq23_ aa.out 0 rfl; have aC := bq23_ aa.out 1 rfl; have ar := blk_frozen aa.out 0; have am := blk_frozen aa.out 1)));go_ret;exact ⟨by first | rfl | (simp [errW_none, errW_some] <;> rfl) | (simp [*, errW_none, errW_some] <;> rfl), by repeat (first | (with_reducible first | exact HB.out | apply below_alloc | apply qb23 | apply below_drew1 | refine below_set ?_ ab.out) | exact HB.out)⟩
end Go.Proofs.YtnednnnegofhkaaDoor.Pr
namespace Go.Proofs.YtnednnnegofhkaaDoor.Pr
open Go.RowKit Go.Proofs.YtnednnnegofhkaaDoorW.PrintWords Go.Proofs.YtnednnnegofhkaaDoorW.PrintLast Go.Proofs.YtnednnnegofhkaaDoorW.PrintMore
attribute [local go_sem] max2_int min2_int max_two min_two max_three min_three max_four min_four
set_option linter.unusedVariables false
set_option linter.unusedSimpArgs false
def impl_CellOk.f (k : Nat) (a0_0 : ByteArray) (a0_1 : Int) (a0_2 : Int) (a0_3 : Int) (a0_4 : Int) (a0_5 : Int) (a0_6 : Int) (a0_7 : Int) (a0_8 : Int) (a0_9 : Int) (a0_10 : Int) : Option (Bool) := (impl_TxtOk.f k a0_0).bind fun t390 => (if t390 = true then ((impl_in.f a0_1 1 4).bind fun t391 => (if t391 = true then ((impl_in.f a0_2 1 4).bind fun t392 => (if t392 = true then ((impl_BrdOk.f a0_3 a0_4).bind fun t393 => (if t393 = true then ((impl_BrdOk.f a0_5 a0_6).bind fun t394 => (if t394 = true then ((impl_BrdOk.f a0_7 a0_8).bind fun t395 => (if t395 = true then ((impl_BrdOk.f a0_9 a0_10).bind fun t396 => (some t396)) else (some false))) else (some false))) else (some false))) else (some false))) else (some false))) else (some false))
theorem bq7_ {w : World} {g : Nat} {t : TypeId} {cs : Array Value} {v : Value} (h : w.heap[g]? = some (.cells cs t (0, 0))) (i : Nat) (e : cs[i]? = some v) : w.cell? ⟨g, i, none⟩ = some v := (blk_cell h i).trans e
abbrev qa7 := @blk_frozen
abbrev qb7 := @Aside0.mk
abbrev qc7 := @pw_below_drewN
abbrev qd7 := @below_alloc
abbrev qe7 := @below_drew1
abbrev qf7 := @below_step
theorem rg7_ {α : Sort _} {a b : α} (h : a = b := by first | rfl | (simp [errW_none, errW_some] <;> rfl) | (simp [*, errW_none, errW_some] <;> rfl)) : a = b := h
set_option maxHeartbeats 8000000 in
set_option maxRecDepth 100000 in
theorem impl_CellOk.calls (k : Nat) (a0_0 : ByteArray) (a0_1 : Int) (a0_2 : Int) (a0_3 : Int) (a0_4 : Int) (a0_5 : Int) (a0_6 : Int) (a0_7 : Int) (a0_8 : Int) (a0_9 : Int) (a0_10 : Int) (r : Bool) (w : World) (h : impl_CellOk.f k a0_0 a0_1 a0_2 a0_3 a0_4 a0_5 a0_6 a0_7 a0_8 a0_9 a0_10 = some r) :
  Calls Tryd.prog 7 #[.agg #[.string a0_0, .int .i64 a0_1, .int .i64 a0_2, .int .i64 a0_3, .int .i64 a0_4, .int .i64 a0_5, .int .i64 a0_6, .int .i64 a0_7, .int .i64 a0_8, .int .i64 a0_9, .int .i64 a0_10]] w fun e w' => e = .returned (.bool r) ∧ Below w.heap.size w w' := by
 have hu37 := Tryd.underlying37;have hu35 := Tryd.underlying35;have HB := qb7 (Below.refl w.heap.size w);have H := h;unfold impl_CellOk.f at H;clear h;replace H := Option.bind_eq_some_iff.mp H;obtain ⟨t390, A20, H⟩ := H;(try dsimp only at H);have A2 := qb7 A20;clear A20;by_cases c3 : t390 = true
 ·subst c3;(have H1 : ((impl_in.f a0_1 1 4).bind fun t391 => (if t391 = true then ((impl_in.f a0_2 1 4).bind fun t392 => (if t392 = true then ((impl_BrdOk.f a0_3 a0_4).bind fun t393 => (if t393 = true then ((impl_BrdOk.f a0_5 a0_6).bind fun t394 => (if t394 = true then ((impl_BrdOk.f a0_7 a0_8).bind fun t395 => (if t395 = true then ((impl_BrdOk.f a0_9 a0_10).bind fun t396 => (some t396)) else (some false))) else (some false))) else (some false))) else (some false))) else (some false))) = some r := by rw [if_pos rfl] at H; exact H);clear H;have H := H1;clear H1;replace H := Option.bind_eq_some_iff.mp H;obtain ⟨t391, A40, H⟩ := H;(try dsimp only at H);have A4 := qb7 A40;clear A40;by_cases c5 : t391 = true
  ·subst c5;(have H1 : ((impl_in.f a0_2 1 4).bind fun t392 => (if t392 = true then ((impl_BrdOk.f a0_3 a0_4).bind fun t393 => (if t393 = true then ((impl_BrdOk.f a0_5 a0_6).bind fun t394 => (if t394 = true then ((impl_BrdOk.f a0_7 a0_8).bind fun t395 => (if t395 = true then ((impl_BrdOk.f a0_9 a0_10).bind fun t396 => (some t396)) else (some false))) else (some false))) else (some false))) else (some false))) = some r := by rw [if_pos rfl] at H; exact H);clear H;have H := H1;clear H1;replace H := Option.bind_eq_some_iff.mp H;obtain ⟨t392, A60, H⟩ := H;(try dsimp only at H);have A6 := qb7 A60;clear A60;by_cases c7 : t392 = true
   ·subst c7;(have H1 : ((impl_BrdOk.f a0_3 a0_4).bind fun t393 => (if t393 = true then ((impl_BrdOk.f a0_5 a0_6).bind fun t394 => (if t394 = true then ((impl_BrdOk.f a0_7 a0_8).bind fun t395 => (if t395 = true then ((impl_BrdOk.f a0_9 a0_10).bind fun t396 => (some t396)) else (some false))) else (some false))) else (some false))) = some r := by rw [if_pos rfl] at H; exact H);clear H;have H := H1;clear H1;replace H := Option.bind_eq_some_iff.mp H;obtain ⟨t393, A80, H⟩ := H;(try dsimp only at H);have A8 := qb7 A80;clear A80;by_cases c9 : t393 = true
    ·subst c9;(have H1 : ((impl_BrdOk.f a0_5 a0_6).bind fun t394 => (if t394 = true then ((impl_BrdOk.f a0_7 a0_8).bind fun t395 => (if t395 = true then ((impl_BrdOk.f a0_9 a0_10).bind fun t396 => (some t396)) else (some false))) else (some false))) = some r := by rw [if_pos rfl] at H; exact H);clear H;have H := H1;clear H1;replace H := Option.bind_eq_some_iff.mp H;obtain ⟨t394, ae, H⟩ := H;(try dsimp only at H);have A10 := qb7 ae;clear ae;by_cases c11 : t394 = true
     ·subst c11;(have H1 : ((impl_BrdOk.f a0_7 a0_8).bind fun t395 => (if t395 = true then ((impl_BrdOk.f a0_9 a0_10).bind fun t396 => (some t396)) else (some false))) = some r := by rw [if_pos rfl] at H; exact H);clear H;have H := H1;clear H1;replace H := Option.bind_eq_some_iff.mp H;obtain ⟨t395, ag, H⟩ := H;(try dsimp only at H);have A12 := qb7 ag;clear ag;by_cases c13 : t395 = true
      ·subst c13;(have H1 : ((impl_BrdOk.f a0_9 a0_10).bind fun t396 => (some t396)) = some r := by rw [if_pos rfl] at H; exact H);clear H;have H := H1;clear H1;replace H := Option.bind_eq_some_iff.mp H;obtain ⟨t396, af, H⟩ := H;(try dsimp only at H);have A14 := qb7 af;clear af;obtain rfl := Option.some.inj H;go_enter Tryd.func7, Tryd.ntmps7
       go_wp2_with (first | ((with_reducible refine gate_dst (N := 1) rfl ?_); refine box_event ?hg (N := 1) ?hd (cs := #[.string a0_0, .int .i64 a0_1, .int .i64 a0_2, .int .i64 a0_3, .int .i64 a0_4, .int .i64 a0_5, .int .i64 a0_6, .int .i64 a0_7, .int .i64 a0_8, .int .i64 a0_9, .int .i64 a0_10]) (t := 37) ?hr ?_; (case hd => rfl); (case hg => rfl); (case hr => go_simp <;> rfl); intro ab hg w15 hbox hb; have n0_ := qb7 (qf7 (by repeat (first | (with_reducible first | exact HB.out | apply qd7 | apply qc7 | apply qe7) | exact HB.out)) hb); have n1_ := qb7 (hbox); have n2_ := qb7 ((by rw [hg]; exact (below_size (by repeat (first | (with_reducible first | exact HB.out | apply qd7 | apply qc7 | apply qe7) | exact HB.out))) : w.heap.size ≤ ab)); have n3_ := qb7 n2_.out; replace HB := n0_; have aa := n1_; have ad := n2_; have ac := n3_; clear n0_ n1_ n2_ n3_; clear hb hbox hg; have d1 := bq7_ aa.out 0 rfl; have bn := bq7_ aa.out 1 rfl; have cd := bq7_ aa.out 2 rfl; have cS := bq7_ aa.out 3 rfl; have eH := bq7_ aa.out 4 rfl; have gZ := bq7_ aa.out 5 rfl; have dm := bq7_ aa.out 6 rfl; have cf := bq7_ aa.out 7 rfl; have go := bq7_ aa.out 8 rfl; have bL := bq7_ aa.out 9 rfl; have aE := bq7_ aa.out 10 rfl; have fa := qa7 aa.out 0; have cj := qa7 aa.out 1; have bi := qa7 aa.out 2; have fv := qa7 aa.out 3; have f0 := qa7 aa.out 4; have f2 := qa7 aa.out 5; have cw := qa7 aa.out 6; have dX := qa7 aa.out 7; have du := qa7 aa.out 8; have et := qa7 aa.out 9; have aj := qa7 aa.out 10) | ((with_reducible refine gate_callee (f := 21) rfl ?_); refine goesL_ (some 5) rfl rfl Tryd.func21 (by kernel_rfl) rfl #[.string a0_0] rfl (by (try simp only [List.map_toArray, List.map_cons, List.map_nil]) <;> rfl) ?_; (with_reducible refine (impl_TxtOk.calls k a0_0 true _ A2.out).mono ?_); rintro e w17 ⟨rfl, hb⟩; refine ⟨_, rfl, ?_⟩; have n0_ := qb7 (blk_below (g := ab) (by (with_reducible repeat (first | apply blk_drewN | apply blk_drew | apply blk_alloc)); exact aa.out) hb); have n1_ := qb7 (qf7 (by repeat (first | (with_reducible first | exact HB.out | apply qd7 | apply qc7 | apply qe7 | refine below_set ?_ ac.out) | exact HB.out)) hb); replace aa := n0_; replace HB := n1_; clear n0_ n1_; (try clear hb hk hi); have bQ := bq7_ aa.out 0 rfl; have dv := bq7_ aa.out 1 rfl; have ej := bq7_ aa.out 2 rfl; have ht := bq7_ aa.out 3 rfl; have ca := bq7_ aa.out 4 rfl; have cc := bq7_ aa.out 5 rfl; have g8 := bq7_ aa.out 6 rfl; have eJ := bq7_ aa.out 7 rfl; have ga := bq7_ aa.out 8 rfl; have fE := bq7_ aa.out 9 rfl; have aR := bq7_ aa.out 10 rfl; have cq := qa7 aa.out 0; have bt := qa7 aa.out 1; have d9 := qa7 aa.out 2; have cB := qa7 aa.out 3; have e2 := qa7 aa.out 4; have ds := qa7 aa.out 5; have dr := qa7 aa.out 6; have bv := qa7 aa.out 7; have cZ := qa7 aa.out 8; have dt := qa7 aa.out 9; have aK := qa7 aa.out 10) | (go_at_call 22; (with_reducible refine (impl_in.calls a0_1 1 4 true _ A4.out).mono ?_); rintro e w' ⟨rfl, ⟨nd, rfl⟩⟩) | (go_at_call 22; (with_reducible refine (impl_in.calls a0_2 1 4 true _ A6.out).mono ?_); rintro e w' ⟨rfl, ⟨nd, rfl⟩⟩) | (go_at_call 23; (with_reducible refine (impl_BrdOk.calls a0_3 a0_4 true _ A8.out).mono ?_); rintro e w19 ⟨rfl, hb⟩; have n0_ := qb7 (blk_below (g := ab) (by (with_reducible repeat (first | apply blk_drewN | apply blk_drew | apply blk_alloc)); exact aa.out) hb); have n1_ := qb7 (qf7 (by repeat (first | (with_reducible first | exact HB.out | apply qd7 | apply qc7 | apply qe7 | refine below_set ?_ ac.out) | exact HB.out)) hb); replace aa := n0_; replace HB := n1_; clear n0_ n1_; (try clear hb hk hi); have bp := bq7_ aa.out 0 rfl; have e4 := bq7_ aa.out 1 rfl; have gx := bq7_ aa.out 2 rfl; have gJ := bq7_ aa.out 3 rfl; have dh := bq7_ aa.out 4 rfl; have g1 := bq7_ aa.out 5 rfl; have hh := bq7_ aa.out 6 rfl; have dp := bq7_ aa.out 7 rfl; have bA := bq7_ aa.out 8 rfl; have ff := bq7_ aa.out 9 rfl; have au := bq7_ aa.out 10 rfl; have cr := qa7 aa.out 0; have fD := qa7 aa.out 1; have c0 := qa7 aa.out 2; have fl := qa7 aa.out 3; have f5 := qa7 aa.out 4; have fw := qa7 aa.out 5; have gR := qa7 aa.out 6; have bl := qa7 aa.out 7; have bS := qa7 aa.out 8; have ct := qa7 aa.out 9; have al := qa7 aa.out 10) | (go_at_call 23; (with_reducible refine (impl_BrdOk.calls a0_5 a0_6 true _ A10.out).mono ?_); rintro e w21 ⟨rfl, hb⟩; have n0_ := qb7 (blk_below (g := ab) (by (with_reducible repeat (first | apply blk_drewN | apply blk_drew | apply blk_alloc)); exact aa.out) hb); have n1_ := qb7 (qf7 (by repeat (first | (with_reducible first | exact HB.out | apply qd7 | apply qc7 | apply qe7 | refine below_set ?_ ac.out) | exact HB.out)) hb); replace aa := n0_; replace HB := n1_; clear n0_ n1_; (try clear hb hk hi); have g2 := bq7_ aa.out 0 rfl; have c6 := bq7_ aa.out 1 rfl; have dL := bq7_ aa.out 2 rfl; have fm := bq7_ aa.out 3 rfl; have dy := bq7_ aa.out 4 rfl; have aY := bq7_ aa.out 5 rfl; have cb := bq7_ aa.out 6 rfl; have ep := bq7_ aa.out 7 rfl; have br := bq7_ aa.out 8 rfl; have b7 := bq7_ aa.out 9 rfl; have ak := bq7_ aa.out 10 rfl; have ge := qa7 aa.out 0; have bR := qa7 aa.out 1; have e8 := qa7 aa.out 2; have b6 := qa7 aa.out 3; have ha := qa7 aa.out 4; have eI := qa7 aa.out 5; have bG := qa7 aa.out 6; have fT := qa7 aa.out 7; have cz := qa7 aa.out 8; have gX := qa7 aa.out 9; have ax := qa7 aa.out 10) | (go_at_call 23; (with_reducible refine (impl_BrdOk.calls a0_7 a0_8 true _ A12.out).mono ?_); rintro e w23 ⟨rfl, hb⟩; have n0_ := qb7 (blk_below (g := ab) (by (with_reducible repeat (first | apply blk_drewN | apply blk_drew | apply blk_alloc)); exact aa.out) hb); have n1_ := qb7 (qf7 (by repeat (first | (with_reducible first | exact HB.out | apply qd7 | apply qc7 | apply qe7 | refine below_set ?_ ac.out) | exact HB.out)) hb); replace aa := n0_; replace HB := n1_; clear n0_ n1_; (try clear hb hk hi); have ea := bq7_ aa.out 0 rfl; have d2 := bq7_ aa.out 1 rfl; have gD := bq7_ aa.out 2 rfl; have dJ := bq7_ aa.out 3 rfl; have bB := bq7_ aa.out 4 rfl; have dz := bq7_ aa.out 5 rfl; have gv := bq7_ aa.out 6 rfl; have gw := bq7_ aa.out 7 rfl; have da := bq7_ aa.out 8 rfl; have ba := bq7_ aa.out 9 rfl; have aU := bq7_ aa.out 10 rfl; have ew := qa7 aa.out 0; have fo := qa7 aa.out 1; have gV := qa7 aa.out 2; have dU := qa7 aa.out 3; have fr := qa7 aa.out 4; have ez := qa7 aa.out 5; have fS := qa7 aa.out 6; have bK := qa7 aa.out 7; have cI := qa7 aa.out 8; have bh := qa7 aa.out 9; have ar := qa7 aa.out 10) | (go_at_call 23; (with_reducible refine (impl_BrdOk.calls a0_9 a0_10 t396 _ A14.out).mono ?_); rintro e w25 ⟨rfl, hb⟩; have n0_ := qb7 (blk_below (g := ab) (by (with_reducible repeat (first | apply blk_drewN | apply blk_drew | apply blk_alloc)); exact aa.out) hb); have n1_ := qb7 (qf7 (by repeat (first | (with_reducible first | exact HB.out | apply qd7 | apply qc7 | apply qe7 | refine below_set ?_ ac.out) | exact HB.out)) hb); replace aa := n0_; replace HB := n1_; clear n0_ n1_; (try clear hb hk hi)))
       go_ret;exact ⟨rg7_, by repeat (first | (with_reducible first | exact HB.out | apply qd7 | apply qc7 | apply qe7 | refine below_set ?_ ac.out) | exact HB.out)⟩
      replace c13 := Bool.eq_false_iff.mpr c13;subst c13;(have H1 : (some false) = some r := by rw [if_neg (show ¬ (false = true) by decide)] at H; exact H);clear H;have H := H1;clear H1;obtain rfl := Option.some.inj H;go_enter Tryd.func7, Tryd.ntmps7
      go_wp2_with (first | ((with_reducible refine gate_dst (N := 1) rfl ?_); refine box_event ?hg (N := 1) ?hd (cs := #[.string a0_0, .int .i64 a0_1, .int .i64 a0_2, .int .i64 a0_3, .int .i64 a0_4, .int .i64 a0_5, .int .i64 a0_6, .int .i64 a0_7, .int .i64 a0_8, .int .i64 a0_9, .int .i64 a0_10]) (t := 37) ?hr ?_; (case hd => rfl); (case hg => rfl); (case hr => go_simp <;> rfl); intro ab hg w26 hbox hb; have n0_ := qb7 (qf7 (by repeat (first | (with_reducible first | exact HB.out | apply qd7 | apply qc7 | apply qe7) | exact HB.out)) hb); have n1_ := qb7 (hbox); have n2_ := qb7 ((by rw [hg]; exact (below_size (by repeat (first | (with_reducible first | exact HB.out | apply qd7 | apply qc7 | apply qe7) | exact HB.out))) : w.heap.size ≤ ab)); have n3_ := qb7 n2_.out; replace HB := n0_; have aa := n1_; have ad := n2_; have ac := n3_; clear n0_ n1_ n2_ n3_; clear hb hbox hg; have aV := bq7_ aa.out 0 rfl; have dI := bq7_ aa.out 1 rfl; have gE := bq7_ aa.out 2 rfl; have dS := bq7_ aa.out 3 rfl; have fx := bq7_ aa.out 4 rfl; have gj := bq7_ aa.out 5 rfl; have ed := bq7_ aa.out 6 rfl; have eK := bq7_ aa.out 7 rfl; have gU := bq7_ aa.out 8 rfl; have gF := bq7_ aa.out 9 rfl; have aP := bq7_ aa.out 10 rfl; have fP := qa7 aa.out 0; have gG := qa7 aa.out 1; have eO := qa7 aa.out 2; have gK := qa7 aa.out 3; have bw := qa7 aa.out 4; have d4 := qa7 aa.out 5; have ei := qa7 aa.out 6; have cu := qa7 aa.out 7; have fY := qa7 aa.out 8; have gp := qa7 aa.out 9; have aT := qa7 aa.out 10) | ((with_reducible refine gate_callee (f := 21) rfl ?_); refine goesL_ (some 5) rfl rfl Tryd.func21 (by kernel_rfl) rfl #[.string a0_0] rfl (by (try simp only [List.map_toArray, List.map_cons, List.map_nil]) <;> rfl) ?_; (with_reducible refine (impl_TxtOk.calls k a0_0 true _ A2.out).mono ?_); rintro e w28 ⟨rfl, hb⟩; refine ⟨_, rfl, ?_⟩; have n0_ := qb7 (blk_below (g := ab) (by (with_reducible repeat (first | apply blk_drewN | apply blk_drew | apply blk_alloc)); exact aa.out) hb); have n1_ := qb7 (qf7 (by repeat (first | (with_reducible first | exact HB.out | apply qd7 | apply qc7 | apply qe7 | refine below_set ?_ ac.out) | exact HB.out)) hb); replace aa := n0_; replace HB := n1_; clear n0_ n1_; (try clear hb hk hi); have bT := bq7_ aa.out 0 rfl; have g3 := bq7_ aa.out 1 rfl; have fg := bq7_ aa.out 2 rfl; have gr := bq7_ aa.out 3 rfl; have ec := bq7_ aa.out 4 rfl; have bg := bq7_ aa.out 5 rfl; have cO := bq7_ aa.out 6 rfl; have bs := bq7_ aa.out 7 rfl; have ck := bq7_ aa.out 8 rfl; have en := bq7_ aa.out 9 rfl; have az := bq7_ aa.out 10 rfl; have fs := qa7 aa.out 0; have db := qa7 aa.out 1; have bM := qa7 aa.out 2; have eg := qa7 aa.out 3; have d8 := qa7 aa.out 4; have cM := qa7 aa.out 5; have eD := qa7 aa.out 6; have eW := qa7 aa.out 7; have bF := qa7 aa.out 8; have c1 := qa7 aa.out 9; have aC := qa7 aa.out 10) | (go_at_call 22; (with_reducible refine (impl_in.calls a0_1 1 4 true _ A4.out).mono ?_); rintro e w' ⟨rfl, ⟨nd, rfl⟩⟩) | (go_at_call 22; (with_reducible refine (impl_in.calls a0_2 1 4 true _ A6.out).mono ?_); rintro e w' ⟨rfl, ⟨nd, rfl⟩⟩) | (go_at_call 23; (with_reducible refine (impl_BrdOk.calls a0_3 a0_4 true _ A8.out).mono ?_); rintro e w30 ⟨rfl, hb⟩; have n0_ := qb7 (blk_below (g := ab) (by (with_reducible repeat (first | apply blk_drewN | apply blk_drew | apply blk_alloc)); exact aa.out) hb); have n1_ := qb7 (qf7 (by repeat (first | (with_reducible first | exact HB.out | apply qd7 | apply qc7 | apply qe7 | refine below_set ?_ ac.out) | exact HB.out)) hb); replace aa := n0_; replace HB := n1_; clear n0_ n1_; (try clear hb hk hi); have dE := bq7_ aa.out 0 rfl; have dj := bq7_ aa.out 1 rfl; have gu := bq7_ aa.out 2 rfl; have g6 := bq7_ aa.out 3 rfl; have df := bq7_ aa.out 4 rfl; have fO := bq7_ aa.out 5 rfl; have cP := bq7_ aa.out 6 rfl; have gq := bq7_ aa.out 7 rfl; have fK := bq7_ aa.out 8 rfl; have co := bq7_ aa.out 9 rfl; have aB := bq7_ aa.out 10 rfl; have dg := qa7 aa.out 0; have fe := qa7 aa.out 1; have b1 := qa7 aa.out 2; have el := qa7 aa.out 3; have eo := qa7 aa.out 4; have eA := qa7 aa.out 5; have gT := qa7 aa.out 6; have cV := qa7 aa.out 7; have bE := qa7 aa.out 8; have cx := qa7 aa.out 9; have aF := qa7 aa.out 10) | (go_at_call 23; (with_reducible refine (impl_BrdOk.calls a0_5 a0_6 true _ A10.out).mono ?_); rintro e w32 ⟨rfl, hb⟩; have n0_ := qb7 (blk_below (g := ab) (by (with_reducible repeat (first | apply blk_drewN | apply blk_drew | apply blk_alloc)); exact aa.out) hb); have n1_ := qb7 (qf7 (by repeat (first | (with_reducible first | exact HB.out | apply qd7 | apply qc7 | apply qe7 | refine below_set ?_ ac.out) | exact HB.out)) hb); replace aa := n0_; replace HB := n1_; clear n0_ n1_; (try clear hb hk hi); have f4 := bq7_ aa.out 0 rfl; have hq := bq7_ aa.out 1 rfl; have eM := bq7_ aa.out 2 rfl; have bc := bq7_ aa.out 3 rfl; have gP := bq7_ aa.out 4 rfl; have eB := bq7_ aa.out 5 rfl; have bI := bq7_ aa.out 6 rfl; have hj := bq7_ aa.out 7 rfl; have dx := bq7_ aa.out 8 rfl; have bo := bq7_ aa.out 9 rfl; have aL := bq7_ aa.out 10 rfl; have dk := qa7 aa.out 0; have dd := qa7 aa.out 1; have dF := qa7 aa.out 2; have gS := qa7 aa.out 3; have eN := qa7 aa.out 4; have bk := qa7 aa.out 5; have ek := qa7 aa.out 6; have gh := qa7 aa.out 7; have er := qa7 aa.out 8; have cK := qa7 aa.out 9; have av := qa7 aa.out 10) | (go_at_call 23; (with_reducible refine (impl_BrdOk.calls a0_7 a0_8 false _ A12.out).mono ?_); rintro e w34 ⟨rfl, hb⟩; have n0_ := qb7 (blk_below (g := ab) (by (with_reducible repeat (first | apply blk_drewN | apply blk_drew | apply blk_alloc)); exact aa.out) hb); have n1_ := qb7 (qf7 (by repeat (first | (with_reducible first | exact HB.out | apply qd7 | apply qc7 | apply qe7 | refine below_set ?_ ac.out) | exact HB.out)) hb); replace aa := n0_; replace HB := n1_; clear n0_ n1_; (try clear hb hk hi)))
      go_ret;exact ⟨rg7_, by repeat (first | (with_reducible first | exact HB.out | apply qd7 | apply qc7 | apply qe7 | refine below_set ?_ ac.out) | exact HB.out)⟩
     replace c11 := Bool.eq_false_iff.mpr c11;subst c11;(have H1 : (some false) = some r := by rw [if_neg (show ¬ (false = true) by decide)] at H; exact H);clear H;have H := H1;clear H1;obtain rfl := Option.some.inj H;go_enter Tryd.func7, Tryd.ntmps7
     go_wp2_with (first | ((with_reducible refine gate_dst (N := 1) rfl ?_); refine box_event ?hg (N := 1) ?hd (cs := #[.string a0_0, .int .i64 a0_1, .int .i64 a0_2, .int .i64 a0_3, .int .i64 a0_4, .int .i64 a0_5, .int .i64 a0_6, .int .i64 a0_7, .int .i64 a0_8, .int .i64 a0_9, .int .i64 a0_10]) (t := 37) ?hr ?_; (case hd => rfl); (case hg => rfl); (case hr => go_simp <;> rfl); intro ab hg w35 hbox hb; have n0_ := qb7 (qf7 (by repeat (first | (with_reducible first | exact HB.out | apply qd7 | apply qc7 | apply qe7) | exact HB.out)) hb); have n1_ := qb7 (hbox); have n2_ := qb7 ((by rw [hg]; exact (below_size (by repeat (first | (with_reducible first | exact HB.out | apply qd7 | apply qc7 | apply qe7) | exact HB.out))) : w.heap.size ≤ ab)); have n3_ := qb7 n2_.out; replace HB := n0_; have aa := n1_; have ad := n2_; have ac := n3_; clear n0_ n1_ n2_ n3_; clear hb hbox hg; have aZ := bq7_ aa.out 0 rfl; have eY := bq7_ aa.out 1 rfl; have dc := bq7_ aa.out 2 rfl; have be := bq7_ aa.out 3 rfl; have fN := bq7_ aa.out 4 rfl; have bx := bq7_ aa.out 5 rfl; have gg := bq7_ aa.out 6 rfl; have bj := bq7_ aa.out 7 rfl; have f3 := bq7_ aa.out 8 rfl; have fB := bq7_ aa.out 9 rfl; have ay := bq7_ aa.out 10 rfl; have c2 := qa7 aa.out 0; have dQ := qa7 aa.out 1; have cJ := qa7 aa.out 2; have cH := qa7 aa.out 3; have cQ := qa7 aa.out 4; have ee := qa7 aa.out 5; have fn := qa7 aa.out 6; have e5 := qa7 aa.out 7; have fh := qa7 aa.out 8; have eG := qa7 aa.out 9; have aq := qa7 aa.out 10) | ((with_reducible refine gate_callee (f := 21) rfl ?_); refine goesL_ (some 5) rfl rfl Tryd.func21 (by kernel_rfl) rfl #[.string a0_0] rfl (by (try simp only [List.map_toArray, List.map_cons, List.map_nil]) <;> rfl) ?_; (with_reducible refine (impl_TxtOk.calls k a0_0 true _ A2.out).mono ?_); rintro e w37 ⟨rfl, hb⟩; refine ⟨_, rfl, ?_⟩; have n0_ := qb7 (blk_below (g := ab) (by (with_reducible repeat (first | apply blk_drewN | apply blk_drew | apply blk_alloc)); exact aa.out) hb); have n1_ := qb7 (qf7 (by repeat (first | (with_reducible first | exact HB.out | apply qd7 | apply qc7 | apply qe7 | refine below_set ?_ ac.out) | exact HB.out)) hb); replace aa := n0_; replace HB := n1_; clear n0_ n1_; (try clear hb hk hi); have f9 := bq7_ aa.out 0 rfl; have dq := bq7_ aa.out 1 rfl; have eV := bq7_ aa.out 2 rfl; have c4 := bq7_ aa.out 3 rfl; have fi := bq7_ aa.out 4 rfl; have g5 := bq7_ aa.out 5 rfl; have eT := bq7_ aa.out 6 rfl; have fX := bq7_ aa.out 7 rfl; have bX := bq7_ aa.out 8 rfl; have gy := bq7_ aa.out 9 rfl; have aA := bq7_ aa.out 10 rfl; have de := qa7 aa.out 0; have gz := qa7 aa.out 1; have fU := qa7 aa.out 2; have cR := qa7 aa.out 3; have dG := qa7 aa.out 4; have cD := qa7 aa.out 5; have f6 := qa7 aa.out 6; have ft := qa7 aa.out 7; have cL := qa7 aa.out 8; have fj := qa7 aa.out 9; have ao := qa7 aa.out 10) | (go_at_call 22; (with_reducible refine (impl_in.calls a0_1 1 4 true _ A4.out).mono ?_); rintro e w' ⟨rfl, ⟨nd, rfl⟩⟩) | (go_at_call 22; (with_reducible refine (impl_in.calls a0_2 1 4 true _ A6.out).mono ?_); rintro e w' ⟨rfl, ⟨nd, rfl⟩⟩) | (go_at_call 23; (with_reducible refine (impl_BrdOk.calls a0_3 a0_4 true _ A8.out).mono ?_); rintro e w39 ⟨rfl, hb⟩; have n0_ := qb7 (blk_below (g := ab) (by (with_reducible repeat (first | apply blk_drewN | apply blk_drew | apply blk_alloc)); exact aa.out) hb); have n1_ := qb7 (qf7 (by repeat (first | (with_reducible first | exact HB.out | apply qd7 | apply qc7 | apply qe7 | refine below_set ?_ ac.out) | exact HB.out)) hb); replace aa := n0_; replace HB := n1_; clear n0_ n1_; (try clear hb hk hi); have dP := bq7_ aa.out 0 rfl; have fA := bq7_ aa.out 1 rfl; have cp := bq7_ aa.out 2 rfl; have dH := bq7_ aa.out 3 rfl; have bO := bq7_ aa.out 4 rfl; have fQ := bq7_ aa.out 5 rfl; have bm := bq7_ aa.out 6 rfl; have cl := bq7_ aa.out 7 rfl; have d3 := bq7_ aa.out 8 rfl; have fq := bq7_ aa.out 9 rfl; have aO := bq7_ aa.out 10 rfl; have cA := qa7 aa.out 0; have bq := qa7 aa.out 1; have eb := qa7 aa.out 2; have cn := qa7 aa.out 3; have f8 := qa7 aa.out 4; have em := qa7 aa.out 5; have cE := qa7 aa.out 6; have g4 := qa7 aa.out 7; have gi := qa7 aa.out 8; have he := qa7 aa.out 9; have ap := qa7 aa.out 10) | (go_at_call 23; (with_reducible refine (impl_BrdOk.calls a0_5 a0_6 false _ A10.out).mono ?_); rintro e w41 ⟨rfl, hb⟩; have n0_ := qb7 (blk_below (g := ab) (by (with_reducible repeat (first | apply blk_drewN | apply blk_drew | apply blk_alloc)); exact aa.out) hb); have n1_ := qb7 (qf7 (by repeat (first | (with_reducible first | exact HB.out | apply qd7 | apply qc7 | apply qe7 | refine below_set ?_ ac.out) | exact HB.out)) hb); replace aa := n0_; replace HB := n1_; clear n0_ n1_; (try clear hb hk hi)))
     go_ret;exact ⟨rg7_, by repeat (first | (with_reducible first | exact HB.out | apply qd7 | apply qc7 | apply qe7 | refine below_set ?_ ac.out) | exact HB.out)⟩
    replace c9 := Bool.eq_false_iff.mpr c9;subst c9;(have H1 : (some false) = some r := by rw [if_neg (show ¬ (false = true) by decide)] at H; exact H);clear H;have H := H1;clear H1;obtain rfl := Option.some.inj H;go_enter Tryd.func7, Tryd.ntmps7
    go_wp2_with (first | ((with_reducible refine gate_dst (N := 1) rfl ?_); refine box_event ?hg (N := 1) ?hd (cs := #[.string a0_0, .int .i64 a0_1, .int .i64 a0_2, .int .i64 a0_3, .int .i64 a0_4, .int .i64 a0_5, .int .i64 a0_6, .int .i64 a0_7, .int .i64 a0_8, .int .i64 a0_9, .int .i64 a0_10]) (t := 37) ?hr ?_; (case hd => rfl); (case hg => rfl); (case hr => go_simp <;> rfl); intro ab hg w42 hbox hb; have n0_ := qb7 (qf7 (by repeat (first | (with_reducible first | exact HB.out | apply qd7 | apply qc7 | apply qe7) | exact HB.out)) hb); have n1_ := qb7 (hbox); have n2_ := qb7 ((by rw [hg]; exact (below_size (by repeat (first | (with_reducible first | exact HB.out | apply qd7 | apply qc7 | apply qe7) | exact HB.out))) : w.heap.size ≤ ab)); have n3_ := qb7 n2_.out; replace HB := n0_; have aa := n1_; have ad := n2_; have ac := n3_; clear n0_ n1_ n2_ n3_; clear hb hbox hg; have dY := bq7_ aa.out 0 rfl; have gQ := bq7_ aa.out 1 rfl; have bN := bq7_ aa.out 2 rfl; have gf := bq7_ aa.out 3 rfl; have bf := bq7_ aa.out 4 rfl; have dw := bq7_ aa.out 5 rfl; have bD := bq7_ aa.out 6 rfl; have gI := bq7_ aa.out 7 rfl; have fV := bq7_ aa.out 8 rfl; have dA := bq7_ aa.out 9 rfl; have aM := bq7_ aa.out 10 rfl; have fG := qa7 aa.out 0; have fL := qa7 aa.out 1; have dB := qa7 aa.out 2; have ce := qa7 aa.out 3; have d6 := qa7 aa.out 4; have es := qa7 aa.out 5; have aX := qa7 aa.out 6; have gm := qa7 aa.out 7; have b2 := qa7 aa.out 8; have cY := qa7 aa.out 9; have aQ := qa7 aa.out 10) | ((with_reducible refine gate_callee (f := 21) rfl ?_); refine goesL_ (some 5) rfl rfl Tryd.func21 (by kernel_rfl) rfl #[.string a0_0] rfl (by (try simp only [List.map_toArray, List.map_cons, List.map_nil]) <;> rfl) ?_; (with_reducible refine (impl_TxtOk.calls k a0_0 true _ A2.out).mono ?_); rintro e w44 ⟨rfl, hb⟩; refine ⟨_, rfl, ?_⟩; have n0_ := qb7 (blk_below (g := ab) (by (with_reducible repeat (first | apply blk_drewN | apply blk_drew | apply blk_alloc)); exact aa.out) hb); have n1_ := qb7 (qf7 (by repeat (first | (with_reducible first | exact HB.out | apply qd7 | apply qc7 | apply qe7 | refine below_set ?_ ac.out) | exact HB.out)) hb); replace aa := n0_; replace HB := n1_; clear n0_ n1_; (try clear hb hk hi); have eF := bq7_ aa.out 0 rfl; have hl := bq7_ aa.out 1 rfl; have gA := bq7_ aa.out 2 rfl; have fH := bq7_ aa.out 3 rfl; have cU := bq7_ aa.out 4 rfl; have gY := bq7_ aa.out 5 rfl; have gs := bq7_ aa.out 6 rfl; have bz := bq7_ aa.out 7 rfl; have b9 := bq7_ aa.out 8 rfl; have bu := bq7_ aa.out 9 rfl; have aH := bq7_ aa.out 10 rfl; have dK := qa7 aa.out 0; have gt := qa7 aa.out 1; have f7 := qa7 aa.out 2; have fd := qa7 aa.out 3; have eZ := qa7 aa.out 4; have gk := qa7 aa.out 5; have eU := qa7 aa.out 6; have dC := qa7 aa.out 7; have bP := qa7 aa.out 8; have gC := qa7 aa.out 9; have aw := qa7 aa.out 10) | (go_at_call 22; (with_reducible refine (impl_in.calls a0_1 1 4 true _ A4.out).mono ?_); rintro e w' ⟨rfl, ⟨nd, rfl⟩⟩) | (go_at_call 22; (with_reducible refine (impl_in.calls a0_2 1 4 true _ A6.out).mono ?_); rintro e w' ⟨rfl, ⟨nd, rfl⟩⟩) | (go_at_call 23; (with_reducible refine (impl_BrdOk.calls a0_3 a0_4 false _ A8.out).mono ?_); rintro e w46 ⟨rfl, hb⟩; have n0_ := qb7 (blk_below (g := ab) (by (with_reducible repeat (first | apply blk_drewN | apply blk_drew | apply blk_alloc)); exact aa.out) hb); have n1_ := qb7 (qf7 (by repeat (first | (with_reducible first | exact HB.out | apply qd7 | apply qc7 | apply qe7 | refine below_set ?_ ac.out) | exact HB.out)) hb); replace aa := n0_; replace HB := n1_; clear n0_ n1_; (try clear hb hk hi)))
    go_ret;exact ⟨rg7_, by repeat (first | (with_reducible first | exact HB.out | apply qd7 | apply qc7 | apply qe7 | refine below_set ?_ ac.out) | exact HB.out)⟩
   replace c7 := Bool.eq_false_iff.mpr c7;subst c7;(have H1 : (some false) = some r := by rw [if_neg (show ¬ (false = true) by decide)] at H; exact H);clear H;have H := H1;clear H1;obtain rfl := Option.some.inj H;go_enter Tryd.func7, Tryd.ntmps7
   go_wp2_with (first | ((with_reducible refine gate_dst (N := 1) rfl ?_); refine box_event ?hg (N := 1) ?hd (cs := #[.string a0_0, .int .i64 a0_1, .int .i64 a0_2, .int .i64 a0_3, .int .i64 a0_4, .int .i64 a0_5, .int .i64 a0_6, .int .i64 a0_7, .int .i64 a0_8, .int .i64 a0_9, .int .i64 a0_10]) (t := 37) ?hr ?_; (case hd => rfl); (case hg => rfl); (case hr => go_simp <;> rfl); intro ab hg w47 hbox hb; have n0_ := qb7 (qf7 (by repeat (first | (with_reducible first | exact HB.out | apply qd7 | apply qc7 | apply qe7) | exact HB.out)) hb); have n1_ := qb7 (hbox); have n2_ := qb7 ((by rw [hg]; exact (below_size (by repeat (first | (with_reducible first | exact HB.out | apply qd7 | apply qc7 | apply qe7) | exact HB.out))) : w.heap.size ≤ ab)); have n3_ := qb7 n2_.out; replace HB := n0_; have aa := n1_; have ad := n2_; have ac := n3_; clear n0_ n1_ n2_ n3_; clear hb hbox hg; have aW := bq7_ aa.out 0 rfl; have fk := bq7_ aa.out 1 rfl; have fu := bq7_ aa.out 2 rfl; have eR := bq7_ aa.out 3 rfl; have gH := bq7_ aa.out 4 rfl; have hf := bq7_ aa.out 5 rfl; have e3 := bq7_ aa.out 6 rfl; have e1 := bq7_ aa.out 7 rfl; have cy := bq7_ aa.out 8 rfl; have eL := bq7_ aa.out 9 rfl; have ah := bq7_ aa.out 10 rfl; have cX := qa7 aa.out 0; have hs := qa7 aa.out 1; have cF := qa7 aa.out 2; have bd := qa7 aa.out 3; have cW := qa7 aa.out 4; have cC := qa7 aa.out 5; have e6 := qa7 aa.out 6; have eP := qa7 aa.out 7; have bV := qa7 aa.out 8; have fC := qa7 aa.out 9; have ai := qa7 aa.out 10) | ((with_reducible refine gate_callee (f := 21) rfl ?_); refine goesL_ (some 5) rfl rfl Tryd.func21 (by kernel_rfl) rfl #[.string a0_0] rfl (by (try simp only [List.map_toArray, List.map_cons, List.map_nil]) <;> rfl) ?_; (with_reducible refine (impl_TxtOk.calls k a0_0 true _ A2.out).mono ?_); rintro e w49 ⟨rfl, hb⟩; refine ⟨_, rfl, ?_⟩; have n0_ := qb7 (blk_below (g := ab) (by (with_reducible repeat (first | apply blk_drewN | apply blk_drew | apply blk_alloc)); exact aa.out) hb); have n1_ := qb7 (qf7 (by repeat (first | (with_reducible first | exact HB.out | apply qd7 | apply qc7 | apply qe7 | refine below_set ?_ ac.out) | exact HB.out)) hb); replace aa := n0_; replace HB := n1_; clear n0_ n1_; (try clear hb hk hi); have bU := bq7_ aa.out 0 rfl; have bW := bq7_ aa.out 1 rfl; have ex := bq7_ aa.out 2 rfl; have bY := bq7_ aa.out 3 rfl; have eh := bq7_ aa.out 4 rfl; have bC := bq7_ aa.out 5 rfl; have eu := bq7_ aa.out 6 rfl; have d7 := bq7_ aa.out 7 rfl; have di := bq7_ aa.out 8 rfl; have e7 := bq7_ aa.out 9 rfl; have aS := bq7_ aa.out 10 rfl; have e0 := qa7 aa.out 0; have e9 := qa7 aa.out 1; have gN := qa7 aa.out 2; have hc := qa7 aa.out 3; have g0 := qa7 aa.out 4; have ch := qa7 aa.out 5; have fy := qa7 aa.out 6; have b8 := qa7 aa.out 7; have dV := qa7 aa.out 8; have gW := qa7 aa.out 9; have am := qa7 aa.out 10) | (go_at_call 22; (with_reducible refine (impl_in.calls a0_1 1 4 true _ A4.out).mono ?_); rintro e w' ⟨rfl, ⟨nd, rfl⟩⟩) | (go_at_call 22; (with_reducible refine (impl_in.calls a0_2 1 4 false _ A6.out).mono ?_); rintro e w' ⟨rfl, ⟨nd, rfl⟩⟩))
   go_ret;exact ⟨rg7_, by repeat (first | (with_reducible first | exact HB.out | apply qd7 | apply qc7 | apply qe7 | refine below_set ?_ ac.out) | exact HB.out)⟩
  replace c5 := Bool.eq_false_iff.mpr c5;subst c5;(have H1 : (some false) = some r := by rw [if_neg (show ¬ (false = true) by decide)] at H; exact H);clear H;have H := H1;clear H1;obtain rfl := Option.some.inj H;go_enter Tryd.func7, Tryd.ntmps7
  (go_wp2_with (first | ((with_reducible refine gate_dst (N := 1) rfl ?_); refine box_event ?hg (N := 1) ?hd (cs := #[.string a0_0, .int .i64 a0_1, .int .i64 a0_2, .int .i64 a0_3, .int .i64 a0_4, .int .i64 a0_5, .int .i64 a0_6, .int .i64 a0_7, .int .i64 a0_8, .int .i64 a0_9, .int .i64 a0_10]) (t := 37) ?hr ?_; (case hd => rfl); (case hg => rfl); (case hr => go_simp <;> rfl); intro ab hg w51 hbox hb; have n0_ := qb7 (qf7 (by repeat (first | (with_reducible first | exact HB.out | apply qd7 | apply qc7 | apply qe7) | exact HB.out)) hb); have n1_ := qb7 (hbox); have n2_ := qb7 ((by rw [hg]; exact (below_size (by repeat (first | (with_reducible first | exact HB.out | apply qd7 | apply qc7 | apply qe7) | exact HB.out))) : w.heap.size ≤ ab)); have n3_ := qb7 n2_.out; replace HB := n0_; have aa := n1_; have ad := n2_; have ac := n3_; clear n0_ n1_ n2_ n3_; clear hb hbox hg; have g7 := bq7_ aa.out 0 rfl; have f1 := bq7_ aa.out 1 rfl; have hm := bq7_ aa.out 2 rfl; have cm := bq7_ aa.out 3 rfl; have ef := bq7_ aa.out 4 rfl; have gl := bq7_ aa.out 5 rfl; have gb := bq7_ aa.out 6 rfl; have bb := bq7_ aa.out 7 rfl; have d5 := bq7_ aa.out 8 rfl; have gL := bq7_ aa.out 9 rfl; have an := bq7_ aa.out 10 rfl; have fR := qa7 aa.out 0; have gM := qa7 aa.out 1; have fz := qa7 aa.out 2; have eX := qa7 aa.out 3; have eQ := qa7 aa.out 4; have bJ := qa7 aa.out 5; have fI := qa7 aa.out 6; have bZ := qa7 aa.out 7; have dO := qa7 aa.out 8; have ci := qa7 aa.out 9; have aI := qa7 aa.out 10) | ((with_reducible refine gate_callee (f := 21) rfl ?_); refine goesL_ (some 5) rfl rfl Tryd.func21 (by kernel_rfl) rfl #[.string a0_0] rfl (by (try simp only [List.map_toArray, List.map_cons, List.map_nil]) <;> rfl) ?_; (with_reducible refine (impl_TxtOk.calls k a0_0 true _ A2.out).mono ?_); rintro e w53 ⟨rfl, hb⟩; refine ⟨_, rfl, ?_⟩; have n0_ := qb7 (blk_below (g := ab) (by (with_reducible repeat (first | apply blk_drewN | apply blk_drew | apply blk_alloc)); exact aa.out) hb); have n1_ := qb7 (qf7 (by repeat (first | (with_reducible first | exact HB.out | apply qd7 | apply qc7 | apply qe7 | refine below_set ?_ ac.out) | exact HB.out)) hb); replace aa := n0_; replace HB := n1_; clear n0_ n1_; (try clear hb hk hi); have cg := bq7_ aa.out 0 rfl; have fM := bq7_ aa.out 1 rfl; have b3 := bq7_ aa.out 2 rfl; have cN := bq7_ aa.out 3 rfl; have b0 := bq7_ aa.out 4 rfl; have g9 := bq7_ aa.out 5 rfl; have dR := bq7_ aa.out 6 rfl; have gB := bq7_ aa.out 7 rfl; have dl := bq7_ aa.out 8 rfl; have bH := bq7_ aa.out 9 rfl; have aD := bq7_ aa.out 10 rfl; have dD := qa7 aa.out 0; have gn := qa7 aa.out 1; have fZ := qa7 aa.out 2; have gc := qa7 aa.out 3; have gO := qa7 aa.out 4; have dM := qa7 aa.out 5; have eC := qa7 aa.out 6; have fc := qa7 aa.out 7; have fp := qa7 aa.out 8; have b5 := qa7 aa.out 9; have aJ := qa7 aa.out 10) | (go_at_call 22; (with_reducible refine (impl_in.calls a0_1 1 4 false _ A4.out).mono ?_); rintro e w' ⟨rfl, ⟨nd, rfl⟩⟩)));go_ret
  exact ⟨rg7_, by repeat (first | (with_reducible first | exact HB.out | apply qd7 | apply qc7 | apply qe7 | refine below_set ?_ ac.out) | exact HB.out)⟩
 replace c3 := Bool.eq_false_iff.mpr c3;subst c3;(have H1 : (some false) = some r := by rw [if_neg (show ¬ (false = true) by decide)] at H; exact H);clear H;have H := H1;clear H1;obtain rfl := Option.some.inj H;go_enter Tryd.func7, Tryd.ntmps7;(go_wp2_with (first | ((with_reducible refine gate_dst (N := 1) rfl ?_); refine box_event ?hg (N := 1) ?hd (cs := #[.string a0_0, .int .i64 a0_1, .int .i64 a0_2, .int .i64 a0_3, .int .i64 a0_4, .int .i64 a0_5, .int .i64 a0_6, .int .i64 a0_7, .int .i64 a0_8, .int .i64 a0_9, .int .i64 a0_10]) (t := 37) ?hr ?_; (case hd => rfl); (case hg => rfl); (case hr => go_simp <;> rfl); intro ab hg w55 hbox hb; have n0_ := qb7 (qf7 (by repeat (first | (with_reducible first | exact HB.out | apply qd7 | apply qc7 | apply qe7) | exact HB.out)) hb); have n1_ := qb7 (hbox); have n2_ := qb7 ((by rw [hg]; exact (below_size (by repeat (first | (with_reducible first | exact HB.out | apply qd7 | apply qc7 | apply qe7) | exact HB.out))) : w.heap.size ≤ ab)); have n3_ := qb7 n2_.out; replace HB := n0_; have aa := n1_; have ad := n2_; have ac := n3_; clear n0_ n1_ n2_ n3_; clear hb hbox hg; have d0 := bq7_ aa.out 0 rfl; have ey := bq7_ aa.out 1 rfl; have fW := bq7_ aa.out 2 rfl; have ev := bq7_ aa.out 3 rfl; have dZ := bq7_ aa.out 4 rfl; have fF := bq7_ aa.out 5 rfl; have cT := bq7_ aa.out 6 rfl; have cG := bq7_ aa.out 7 rfl; have eS := bq7_ aa.out 8 rfl; have dT := bq7_ aa.out 9 rfl; have aN := bq7_ aa.out 10 rfl; have cv := qa7 aa.out 0; have fJ := qa7 aa.out 1; have b4 := qa7 aa.out 2; have dW := qa7 aa.out 3; have dn := qa7 aa.out 4; have dN := qa7 aa.out 5; have c8 := qa7 aa.out 6; have fb := qa7 aa.out 7; have eE := qa7 aa.out 8; have gd := qa7 aa.out 9; have aG := qa7 aa.out 10) | ((with_reducible refine gate_callee (f := 21) rfl ?_); refine goesL_ (some 5) rfl rfl Tryd.func21 (by kernel_rfl) rfl #[.string a0_0] rfl (by (try simp only [List.map_toArray, List.map_cons, List.map_nil]) <;> rfl) ?_; (with_reducible refine (impl_TxtOk.calls k a0_0 false _ A2.out).mono ?_); rintro e w57 ⟨rfl, hb⟩; refine ⟨_, rfl, ?_⟩; have n0_ := qb7 (blk_below (g := ab) (by (with_reducible repeat (first | apply blk_drewN | apply blk_drew | apply blk_alloc)); exact aa.out) hb); have n1_ := qb7 (qf7 (by repeat (first | (with_reducible first | exact HB.out | apply qd7 | apply qc7 | apply qe7 | refine below_set ?_ ac.out) | exact HB.out)) hb); replace aa := n0_; replace HB := n1_; clear n0_ n1_; (try clear hb hk hi))));go_ret;exact ⟨rg7_, by repeat (first | (with_reducible first | exact HB.out | apply qd7 | apply qc7 | apply qe7 | refine below_set ?_ ac.out) | exact HB.out)⟩
end Go.Proofs.YtnednnnegofhkaaDoor.Pr
namespace Go.Proofs.YtnednnnegofhkaaDoor.Pr
open Go.RowKit Go.Proofs.YtnednnnegofhkaaDoorW.PrintWords Go.Proofs.YtnednnnegofhkaaDoorW.PrintLast Go.Proofs.YtnednnnegofhkaaDoorW.PrintMore
attribute [local go_sem] max2_int min2_int max_two min_two max_three min_three max_four min_four
set_option linter.unusedVariables false
set_option linter.unusedSimpArgs false
def tblColV (x : S29) : Value := .agg #[.int .i64 x.f0, .int .i64 x.f1]
set_option maxHeartbeats 4000000 in
theorem idxTblCol_calls (p : S29 → Bool) (g : Nat) (fst lb : Array Value) (eg : ∀ args w, (callFunc g args).run Tryd.prog w = .ok (.enter g args) w) (A : Option Addr) (c : Nat) (l : List S29) (w : World) (hr : Kd.C k29 w A l.length l) (hc : l.length ≤ c)
    (hp : ∀ (W : World) (x : S29), x ∈ l → Below w.heap.size w W → Calls Tryd.prog g (fst.push (tblColV x) ++ lb) W fun e w' => e = .returned (.bool (p x)) ∧ Below W.heap.size W w') :
    Calls Tryd.prog 45 #[.slice A l.length c, .func (.func g) fst lb] w fun e w' => e = .returned (.int .i64 (idxOf p l)) ∧ Below w.heap.size w w' := by
  have HR := Aside0.mk hr
  have HP := Aside0.mk hp
  have hm := Kd.C_max hr
  clear hr hp
  go_enter Tryd.func45, Tryd.ntmps45
  go_wp2
  go_loopg [5, 8] l.length (fun gk v5 v8 wr => ∃ k : Nat, k ≤ l.length ∧ l.length - k ≤ gk ∧ v8 = .int .i64 k ∧ Aside0 (Below w.heap.size w wr) ∧ Aside0 (∀ j x, j < k → l[j]? = some x → p x = false))
  case atStart => exact ⟨0, Nat.zero_le _, by omega, rfl, ⟨Below.refl _ w⟩, ⟨fun j x hj => absurd hj (Nat.not_lt_zero _)⟩⟩
  case round =>
    obtain ⟨k, hk, hg, rfl, BW, HN⟩ := hrel
    by_cases hlt : k < l.length
    · have hltz : (k : Int) < (l.length : Int) := by omega
      obtain ⟨ad, eA, hx0, hx1⟩ := at_T29 HR.out (k : Int) (by omega) hltz
      cases eA
      replace hx0 := (BW.out.cell (World.block_lt_of_cell? w _ hx0)).trans hx0
      replace hx1 := (BW.out.cell (World.block_lt_of_cell? w _ hx1)).trans hx1
      rw [Int.toNat_natCast] at hx0 hx1
      have hmem := getD_at l k z29 hlt
      have hrd : rd_T29 l (k : Int) = l.getD (k : Int).toNat z29 := rfl
      rw [← hrd] at hmem
      have hcall := HP.out wr (rd_T29 l k) (List.mem_of_getElem? hmem) BW.out
      unfold tblColV at hcall
      have HM := Aside0.mk hmem
      clear hmem hrd
      cases hq : p (rd_T29 l k) with
      | true =>
        rw [hq] at hcall
        have HQ := Aside0.mk hq
        clear hq
        go_wp2_with ((with_reducible refine hcall.mono ?_); rintro e w' ⟨rfl, hb'⟩)
        go_ret
        exact ⟨by rw [idxOf_hit p l k _ HM.out HQ.out HN.out]; rfl, below_then BW.out BW.out.size hb'⟩
      | false =>
        rw [hq] at hcall
        have HQ := Aside0.mk hq
        clear hq
        go_wp2_with ((with_reducible refine hcall.mono ?_); rintro e w' ⟨rfl, hb'⟩)
        go_roundg (l.length - (k + 1))
        case measure => omega
        case rel =>
          refine ⟨k + 1, by omega, by omega, by go_num, ⟨below_then BW.out BW.out.size hb'⟩, ⟨fun j y hj hy => ?_⟩⟩
          by_cases e : j = k
          · subst e
            rw [HM.out] at hy; cases hy; exact HQ.out
          · exact HN.out j y (by omega) hy
    · have hltz : ¬ (k : Int) < (l.length : Int) := by omega
      have : k = l.length := by omega
      subst this
      go_wp2
      go_ret
      exact ⟨by rw [idxOf_miss p l HN.out]; rfl, BW.out⟩
end Go.Proofs.YtnednnnegofhkaaDoor.Pr
namespace Go.Proofs.YtnednnnegofhkaaDoor.Pr
open Go.RowKit Go.Proofs.YtnednnnegofhkaaDoorW.PrintWords Go.Proofs.YtnednnnegofhkaaDoorW.PrintLast Go.Proofs.YtnednnnegofhkaaDoorW.PrintMore
attribute [local go_sem] max2_int min2_int max_two min_two max_three min_three max_four min_four
set_option linter.unusedVariables false
set_option linter.unusedSimpArgs false
set_option maxHeartbeats 2000000 in
theorem contTblCol_calls (p : S29 → Bool) (g : Nat) (fst lb : Array Value) (eg : ∀ args w, (callFunc g args).run Tryd.prog w = .ok (.enter g args) w) (A : Option Addr) (c : Nat) (l : List S29) (w : World) (hr : Kd.C k29 w A l.length l) (hc : l.length ≤ c)
    (hp : ∀ (W : World) (x : S29), x ∈ l → Below w.heap.size w W → Calls Tryd.prog g (fst.push (tblColV x) ++ lb) W fun e w' => e = .returned (.bool (p x)) ∧ Below W.heap.size W w') :
    Calls Tryd.prog 24 #[.slice A l.length c, .func (.func g) fst lb] w fun e w' => e = .returned (.bool (l.any p)) ∧ Below w.heap.size w w' := by
  have hcall := fun W (hb : W = w) => idxTblCol_calls p g fst lb eg A c l W (hb ▸ hr) hc (hb ▸ hp)
  have HC := Aside0.mk hcall
  clear hcall hr hp hc
  have hi := idxOf_range p l
  have hd : decide (0 ≤ idxOf p l) = l.any p := by
    cases h : l.any p
    · apply decide_eq_false; intro q; have := hi.2.2.mp q; rw [h] at this; cases this
    · exact decide_eq_true (hi.2.2.mpr h)
  have HD := Aside0.mk hd
  clear hd hi
  go_enter Tryd.func24, Tryd.ntmps24
  go_wp2_with (go_at_call 45; refine (HC.out _ rfl).mono ?_; rintro e w' ⟨rfl, hb'⟩)
  go_ret
  exact ⟨by rw [← HD.out]; rfl, hb'⟩
end Go.Proofs.YtnednnnegofhkaaDoor.Pr
namespace Go.Proofs.YtnednnnegofhkaaDoor.Pr
open Go.RowKit Go.Proofs.YtnednnnegofhkaaDoorW.PrintWords Go.Proofs.YtnednnnegofhkaaDoorW.PrintLast Go.Proofs.YtnednnnegofhkaaDoorW.PrintMore
attribute [local go_sem] max2_int min2_int max_two min_two max_three min_three max_four min_four
set_option linter.unusedVariables false
set_option linter.unusedSimpArgs false
def impl_TblCol_ok.f (a0_0 : Int) (a0_1 : Int) : Option (Bool) := if a0_0 = 0 then (some (a0_1 == 0)) else (if a0_0 = 1 then ((impl_in.f a0_1 0 60).bind fun t398 => (some t398)) else (if a0_0 = 2 then ((impl_in.f a0_1 1 100).bind fun t399 => (some t399)) else (some false)))
theorem bq26_ {w : World} {g : Nat} {t : TypeId} {cs : Array Value} {v : Value} (h : w.heap[g]? = some (.cells cs t (0, 0))) (i : Nat) (e : cs[i]? = some v) : w.cell? ⟨g, i, none⟩ = some v := (blk_cell h i).trans e
set_option maxHeartbeats 8000000 in
set_option maxRecDepth 100000 in
theorem impl_TblCol_ok.calls (a0_0 : Int) (a0_1 : Int) (r : Bool) (w : World) (h : impl_TblCol_ok.f a0_0 a0_1 = some r) :
  Calls Tryd.prog 26 #[.agg #[.int .i64 a0_0, .int .i64 a0_1]] w fun e w' => e = .returned (.bool r) ∧ Below w.heap.size w w' := by
 have hu29 := Tryd.underlying29;have HB := Aside0.mk (Below.refl w.heap.size w);have H := h;unfold impl_TblCol_ok.f at H;clear h;by_cases c2 : a0_0 = 0;(·rw [if_pos c2] at H;have ai : (a0_0 == 0) = true := beq_iff_eq.mpr c2;have af : (a0_0 != 0) = false := bne_eq_false_iff_eq.mpr c2;clear c2;obtain rfl := Option.some.inj H;go_enter Tryd.func26, Tryd.ntmps26;(go_wp2_with (first | ((with_reducible refine gate_dst (N := 1) rfl ?_); refine box_event ?hg (N := 1) ?hd (cs := #[.int .i64 a0_0, .int .i64 a0_1]) (t := 29) ?hr ?_; (case hd => rfl); (case hg => rfl); (case hr => go_simp <;> rfl); intro ab hg w3 hbox hb; have n0_ := Aside0.mk (below_step (by repeat (first | (with_reducible first | exact HB.out | apply below_alloc | apply pw_below_drewN | apply below_drew1) | exact HB.out)) hb); have n1_ := Aside0.mk (hbox); have n2_ := Aside0.mk ((by rw [hg]; exact (below_size (by repeat (first | (with_reducible first | exact HB.out | apply below_alloc | apply pw_below_drewN | apply below_drew1) | exact HB.out))) : w.heap.size ≤ ab)); have n3_ := Aside0.mk n2_.out; replace HB := n0_; have aa := n1_; have ad := n2_; have ac := n3_; clear n0_ n1_ n2_ n3_; clear hb hbox hg; have av := bq26_ aa.out 0 rfl; have aA := bq26_ aa.out 1 rfl; have aw := blk_frozen aa.out 0; have az := blk_frozen aa.out 1)));go_ret;exact ⟨by first | rfl | (simp [errW_none, errW_some] <;> rfl) | (simp [*, errW_none, errW_some] <;> rfl), by repeat (first | (with_reducible first | exact HB.out | apply below_alloc | apply pw_below_drewN | apply below_drew1 | refine below_set ?_ ac.out) | exact HB.out)⟩)
 rw [if_neg c2] at H;have ai : (a0_0 == 0) = false := beq_eq_false_iff_ne.mpr c2;have af : (a0_0 != 0) = true := bne_iff_ne.mpr c2;by_cases c5 : a0_0 = 1;(·rw [if_pos c5] at H;have ak : (a0_0 == 1) = true := beq_iff_eq.mpr c5;have ah : (a0_0 != 1) = false := bne_eq_false_iff_eq.mpr c5;clear c5;replace H := Option.bind_eq_some_iff.mp H;obtain ⟨t398, A60, H⟩ := H;(try dsimp only at H);have A6 := Aside0.mk A60;clear A60;obtain rfl := Option.some.inj H;go_enter Tryd.func26, Tryd.ntmps26;(go_wp2_with (first | ((with_reducible refine gate_dst (N := 1) rfl ?_); refine box_event ?hg (N := 1) ?hd (cs := #[.int .i64 a0_0, .int .i64 a0_1]) (t := 29) ?hr ?_; (case hd => rfl); (case hg => rfl); (case hr => go_simp <;> rfl); intro ab hg w7 hbox hb; have n0_ := Aside0.mk (below_step (by repeat (first | (with_reducible first | exact HB.out | apply below_alloc | apply pw_below_drewN | apply below_drew1) | exact HB.out)) hb); have n1_ := Aside0.mk (hbox); have n2_ := Aside0.mk ((by rw [hg]; exact (below_size (by repeat (first | (with_reducible first | exact HB.out | apply below_alloc | apply pw_below_drewN | apply below_drew1) | exact HB.out))) : w.heap.size ≤ ab)); have n3_ := Aside0.mk n2_.out; replace HB := n0_; have aa := n1_; have ad := n2_; have ac := n3_; clear n0_ n1_ n2_ n3_; clear hb hbox hg; have aB := bq26_ aa.out 0 rfl; have aC := bq26_ aa.out 1 rfl; have ay := blk_frozen aa.out 0; have ax := blk_frozen aa.out 1) | ((with_reducible refine gate_callee (f := 22) rfl ?_); refine goesL_ (some 14) rfl rfl Tryd.func22 (by kernel_rfl) rfl #[.int .i64 a0_1, .int .i64 0, .int .i64 60] rfl (by (try simp only [List.map_toArray, List.map_cons, List.map_nil]) <;> rfl) ?_; (with_reducible refine (impl_in.calls a0_1 0 60 t398 _ A6.out).mono ?_); rintro e w' ⟨rfl, ⟨nd, rfl⟩⟩; refine ⟨_, rfl, ?_⟩)));go_ret;exact ⟨by first | rfl | (simp [errW_none, errW_some] <;> rfl) | (simp [*, errW_none, errW_some] <;> rfl), by repeat (first | (with_reducible first | exact HB.out | apply below_alloc | apply pw_below_drewN | apply below_drew1 | refine below_set ?_ ac.out) | exact HB.out)⟩)
 rw [if_neg c5] at H;have ak : (a0_0 == 1) = false := beq_eq_false_iff_ne.mpr c5;have ah : (a0_0 != 1) = true := bne_iff_ne.mpr c5;by_cases c9 : a0_0 = 2;(·rw [if_pos c9] at H;have aj : (a0_0 == 2) = true := beq_iff_eq.mpr c9;have ag : (a0_0 != 2) = false := bne_eq_false_iff_eq.mpr c9;clear c9;replace H := Option.bind_eq_some_iff.mp H;obtain ⟨t399, ae, H⟩ := H;(try dsimp only at H);have A10 := Aside0.mk ae;clear ae;obtain rfl := Option.some.inj H;go_enter Tryd.func26, Tryd.ntmps26;(go_wp2_with (first | ((with_reducible refine gate_dst (N := 1) rfl ?_); refine box_event ?hg (N := 1) ?hd (cs := #[.int .i64 a0_0, .int .i64 a0_1]) (t := 29) ?hr ?_; (case hd => rfl); (case hg => rfl); (case hr => go_simp <;> rfl); intro ab hg w11 hbox hb; have n0_ := Aside0.mk (below_step (by repeat (first | (with_reducible first | exact HB.out | apply below_alloc | apply pw_below_drewN | apply below_drew1) | exact HB.out)) hb); have n1_ := Aside0.mk (hbox); have n2_ := Aside0.mk ((by rw [hg]; exact (below_size (by repeat (first | (with_reducible first | exact HB.out | apply below_alloc | apply pw_below_drewN | apply below_drew1) | exact HB.out))) : w.heap.size ≤ ab)); have n3_ := Aside0.mk n2_.out; replace HB := n0_; have aa := n1_; have ad := n2_; have ac := n3_; clear n0_ n1_ n2_ n3_; clear hb hbox hg; have ao := bq26_ aa.out 0 rfl; have aq := bq26_ aa.out 1 rfl; have al := blk_frozen aa.out 0; have ar := blk_frozen aa.out 1) | ((with_reducible refine gate_callee (f := 22) rfl ?_); refine goesL_ (some 19) rfl rfl Tryd.func22 (by kernel_rfl) rfl #[.int .i64 a0_1, .int .i64 1, .int .i64 100] rfl (by (try simp only [List.map_toArray, List.map_cons, List.map_nil]) <;> rfl) ?_; (with_reducible refine (impl_in.calls a0_1 1 100 t399 _ A10.out).mono ?_); rintro e w' ⟨rfl, ⟨nd, rfl⟩⟩; refine ⟨_, rfl, ?_⟩)));go_ret;exact ⟨by first | rfl | (simp [errW_none, errW_some] <;> rfl) | (simp [*, errW_none, errW_some] <;> rfl), by repeat (first | (with_reducible first | exact HB.out | apply below_alloc | apply pw_below_drewN | apply below_drew1 | refine below_set ?_ ac.out) | exact HB.out)⟩)
 rw [if_neg c9] at H;have aj : (a0_0 == 2) = false := beq_eq_false_iff_ne.mpr c9;have ag : (a0_0 != 2) = true := bne_iff_ne.mpr c9;obtain rfl := Option.some.inj H;go_enter Tryd.func26, Tryd.ntmps26;(go_wp2_with (first | ((with_reducible refine gate_dst (N := 1) rfl ?_); refine box_event ?hg (N := 1) ?hd (cs := #[.int .i64 a0_0, .int .i64 a0_1]) (t := 29) ?hr ?_; (case hd => rfl); (case hg => rfl); (case hr => go_simp <;> rfl); intro ab hg w13 hbox hb; have n0_ := Aside0.mk (below_step (by repeat (first | (with_reducible first | exact HB.out | apply below_alloc | apply pw_below_drewN | apply below_drew1) | exact HB.out)) hb); have n1_ := Aside0.mk (hbox); have n2_ := Aside0.mk ((by rw [hg]; exact (below_size (by repeat (first | (with_reducible first | exact HB.out | apply below_alloc | apply pw_below_drewN | apply below_drew1) | exact HB.out))) : w.heap.size ≤ ab)); have n3_ := Aside0.mk n2_.out; replace HB := n0_; have aa := n1_; have ad := n2_; have ac := n3_; clear n0_ n1_ n2_ n3_; clear hb hbox hg; have ap := bq26_ aa.out 0 rfl; have au := bq26_ aa.out 1 rfl; have am := blk_frozen aa.out 0; have an := blk_frozen aa.out 1)));go_ret;exact ⟨by first | rfl | (simp [errW_none, errW_some] <;> rfl) | (simp [*, errW_none, errW_some] <;> rfl), by repeat (first | (with_reducible first | exact HB.out | apply below_alloc | apply pw_below_drewN | apply below_drew1 | refine below_set ?_ ac.out) | exact HB.out)⟩
end Go.Proofs.YtnednnnegofhkaaDoor.Pr
namespace Go.Proofs.YtnednnnegofhkaaDoor.Pr
open Go.RowKit Go.Proofs.YtnednnnegofhkaaDoorW.PrintWords Go.Proofs.YtnednnnegofhkaaDoorW.PrintLast Go.Proofs.YtnednnnegofhkaaDoorW.PrintMore
attribute [local go_sem] max2_int min2_int max_two min_two max_three min_three max_four min_four
set_option linter.unusedVariables false
set_option linter.unusedSimpArgs false
def impl_TblOk_1.f (a0_0 : Int) (a0_1 : Int) : Option (Bool) := (impl_TblCol_ok.f a0_0 a0_1).bind fun t401 => (some (!t401))
set_option maxHeartbeats 8000000 in
set_option maxRecDepth 100000 in
theorem impl_TblOk_1.calls (a0_0 : Int) (a0_1 : Int) (r : Bool) (w : World) (h : impl_TblOk_1.f a0_0 a0_1 = some r) :
    Calls Tryd.prog 25 #[.agg #[.int .i64 a0_0, .int .i64 a0_1]] w fun e w' => e = .returned (.bool r) ∧ Below w.heap.size w w' := by
  have hu29 := Tryd.underlying29
  have HB := Aside0.mk (Below.refl w.heap.size w)
  have H : ((impl_TblCol_ok.f a0_0 a0_1).bind fun t401 => (some (!t401))) = some r := h
  clear h
  replace H := Option.bind_eq_some_iff.mp H
  obtain ⟨t401, A20, H⟩ := H
  replace H : (some (!t401)) = some r := H
  have A2 := Aside0.mk A20
  clear A20
  obtain rfl := Option.some.inj H
  go_enter Tryd.func25, Tryd.ntmps25
  go_wp2_with (first | ((with_reducible refine gate_dst (N := 1) rfl ?_); refine box_event ?hg (N := 1) ?hd (cs := #[.int .i64 a0_0, .int .i64 a0_1]) (t := 29) ?hr ?_; (case hd => rfl); (case hg => rfl); (case hr => first | (go_simp; done) | (go_simp; rfl)); intro gb400 hg w3 hbox hb; have n0_ := Aside0.mk (below_step (by repeat (first | (with_reducible first | exact HB.out | apply below_alloc | apply pw_below_drewN | apply below_drew1) | exact HB.out)) hb); have n1_ := Aside0.mk (hbox); have n2_ := Aside0.mk ((by rw [hg]; exact (below_size (by repeat (first | (with_reducible first | exact HB.out | apply below_alloc | apply pw_below_drewN | apply below_drew1) | exact HB.out))) : w.heap.size ≤ gb400)); have n3_ := Aside0.mk ((by rw [hg]; exact (below_size (by repeat (first | (with_reducible first | exact HB.out | apply below_alloc | apply pw_below_drewN | apply below_drew1) | exact HB.out))) : w.heap.size ≤ gb400)); clear HB; have HB := n0_; have BK400 := n1_; have GW400 := n2_; have GE400 := n3_; clear n0_ n1_ n2_ n3_; clear hb hbox hg; have hcz4_0 : w3.cell? ⟨gb400, 0, none⟩ = some (.int .i64 a0_0) := (blk_cell BK400.out 0).trans rfl; have hcz4_1 : w3.cell? ⟨gb400, 1, none⟩ = some (.int .i64 a0_1) := (blk_cell BK400.out 1).trans rfl; have hfz4_0 := blk_frozen BK400.out 0; have hfz4_1 := blk_frozen BK400.out 1) | ((with_reducible refine gate_callee (f := 26) rfl ?_); refine goesL_ (some 4) rfl rfl Tryd.func26 (by kernel_rfl) rfl #[.agg #[.int .i64 a0_0, .int .i64 a0_1]] rfl (by (try simp only [List.map_toArray, List.map_cons, List.map_nil]); first | done | rfl | (simp only [List.length_drop, List.length_take]; rfl)) ?_; (with_reducible refine (impl_TblCol_ok.calls a0_0 a0_1 t401 _ A2.out).mono ?_); rintro e w5 ⟨rfl, hb⟩; refine ⟨_, rfl, ?_⟩; have n0_ := Aside0.mk (blk_below (g := gb400) (o := .cells #[.int .i64 a0_0, .int .i64 a0_1] 29 (0, 0)) (by (with_reducible repeat (first | refine blk_drewN ?_ _ | refine blk_drew ?_ | refine blk_alloc ?_ _)); exact BK400.out) hb); have n1_ := Aside0.mk (below_step (by repeat (first | (with_reducible first | exact HB.out | apply below_alloc | apply pw_below_drewN | apply below_drew1 | refine below_set ?_ GE400.out) | exact HB.out)) hb); clear BK400; clear HB; have BK400 := n0_; have HB := n1_; clear n0_ n1_; (try clear hb); (try clear hb2); (try clear hk); (try clear hi)))
  go_ret
  exact ⟨by first | rfl | (simp [errW_none, errW_some] <;> rfl) | (simp [*, errW_none, errW_some] <;> rfl), by repeat (first | (with_reducible first | exact HB.out | apply below_alloc | apply pw_below_drewN | apply below_drew1 | refine below_set ?_ GE400.out) | exact HB.out)⟩
end Go.Proofs.YtnednnnegofhkaaDoor.Pr
namespace Go.Proofs.YtnednnnegofhkaaDoor.Pr
open Go.RowKit Go.Proofs.YtnednnnegofhkaaDoorW.PrintWords Go.Proofs.YtnednnnegofhkaaDoorW.PrintLast Go.Proofs.YtnednnnegofhkaaDoorW.PrintMore
attribute [local go_sem] max2_int min2_int max_two min_two max_three min_three max_four min_four
set_option linter.unusedVariables false
set_option linter.unusedSimpArgs false
set_option maxHeartbeats 4000000 in
theorem idxTblRow_calls (p : S32 → Bool) (g : Nat) (fst lb : Array Value) (eg : ∀ args w, (callFunc g args).run Tryd.prog w = .ok (.enter g args) w) (A : Option Addr) (c : Nat) (l : List S32) (w : World) (hr : Kd.C k32 w A l.length l) (hc : l.length ≤ c)
    (hp : ∀ (W : World) (x : S32) (A0 : Option Addr) (c0 : Nat), x ∈ l → Below w.heap.size w W → x.f0.length ≤ c0 → Kd.C k37 W A0 x.f0.length x.f0 → Calls Tryd.prog g (fst.push (.agg #[.slice A0 x.f0.length c0, .bool x.f1]) ++ lb) W fun e w' => e = .returned (.bool (p x)) ∧ Below W.heap.size W w') :
    Calls Tryd.prog 46 #[.slice A l.length c, .func (.func g) fst lb] w fun e w' => e = .returned (.int .i64 (idxOf p l)) ∧ Below w.heap.size w w' := by
  have HR := Aside0.mk hr
  have HP := Aside0.mk hp
  have hm := Kd.C_max hr
  clear hr hp
  go_enter Tryd.func46, Tryd.ntmps46
  go_wp2
  go_loopg [5, 8] l.length (fun gk v5 v8 wr => ∃ k : Nat, k ≤ l.length ∧ l.length - k ≤ gk ∧ v8 = .int .i64 k ∧ Aside0 (Below w.heap.size w wr) ∧ Aside0 (∀ j x, j < k → l[j]? = some x → p x = false))
  case atStart => exact ⟨0, Nat.zero_le _, by omega, rfl, ⟨Below.refl _ w⟩, ⟨fun j x hj => absurd hj (Nat.not_lt_zero _)⟩⟩
  case round =>
    obtain ⟨k, hk, hg, rfl, BW, HN⟩ := hrel
    by_cases hlt : k < l.length
    · have hltz : (k : Int) < (l.length : Int) := by omega
      obtain ⟨ad, A0, c0, eA, hx0, hx1, hl0, hg0⟩ := at_T32 HR.out (k : Int) (by omega) hltz
      cases eA
      replace hx0 := (BW.out.cell (World.block_lt_of_cell? w _ hx0)).trans hx0
      replace hx1 := (BW.out.cell (World.block_lt_of_cell? w _ hx1)).trans hx1
      replace hg0 := Kd.C_below hg0 BW.out
      rw [Int.toNat_natCast] at hx0 hx1
      have hmem := getD_at l k z32 hlt
      have hrd : rd_T32 l (k : Int) = l.getD (k : Int).toNat z32 := rfl
      rw [← hrd] at hmem
      have hcall := HP.out wr (rd_T32 l k) A0 c0 (List.mem_of_getElem? hmem) BW.out hl0 hg0
      clear hg0
      have HM := Aside0.mk hmem
      clear hmem hrd
      cases hq : p (rd_T32 l k) with
      | true =>
        rw [hq] at hcall
        have HQ := Aside0.mk hq
        clear hq
        go_wp2_with ((with_reducible refine hcall.mono ?_); rintro e w' ⟨rfl, hb'⟩)
        go_ret
        exact ⟨by rw [idxOf_hit p l k _ HM.out HQ.out HN.out]; rfl, below_then BW.out BW.out.size hb'⟩
      | false =>
        rw [hq] at hcall
        have HQ := Aside0.mk hq
        clear hq
        go_wp2_with ((with_reducible refine hcall.mono ?_); rintro e w' ⟨rfl, hb'⟩)
        go_roundg (l.length - (k + 1))
        case measure => omega
        case rel =>
          refine ⟨k + 1, by omega, by omega, by go_num, ⟨below_then BW.out BW.out.size hb'⟩, ⟨fun j y hj hy => ?_⟩⟩
          by_cases e : j = k
          · subst e
            rw [HM.out] at hy; cases hy; exact HQ.out
          · exact HN.out j y (by omega) hy
    · have hltz : ¬ (k : Int) < (l.length : Int) := by omega
      have : k = l.length := by omega
      subst this
      go_wp2
      go_ret
      exact ⟨by rw [idxOf_miss p l HN.out]; rfl, BW.out⟩
end Go.Proofs.YtnednnnegofhkaaDoor.Pr
namespace Go.Proofs.YtnednnnegofhkaaDoor.Pr
open Go.RowKit Go.Proofs.YtnednnnegofhkaaDoorW.PrintWords Go.Proofs.YtnednnnegofhkaaDoorW.PrintLast Go.Proofs.YtnednnnegofhkaaDoorW.PrintMore
attribute [local go_sem] max2_int min2_int max_two min_two max_three min_three max_four min_four
set_option linter.unusedVariables false
set_option linter.unusedSimpArgs false
set_option maxHeartbeats 2000000 in
theorem contTblRow_calls (p : S32 → Bool) (g : Nat) (fst lb : Array Value) (eg : ∀ args w, (callFunc g args).run Tryd.prog w = .ok (.enter g args) w) (A : Option Addr) (c : Nat) (l : List S32) (w : World) (hr : Kd.C k32 w A l.length l) (hc : l.length ≤ c)
    (hp : ∀ (W : World) (x : S32) (A0 : Option Addr) (c0 : Nat), x ∈ l → Below w.heap.size w W → x.f0.length ≤ c0 → Kd.C k37 W A0 x.f0.length x.f0 → Calls Tryd.prog g (fst.push (.agg #[.slice A0 x.f0.length c0, .bool x.f1]) ++ lb) W fun e w' => e = .returned (.bool (p x)) ∧ Below W.heap.size W w') :
    Calls Tryd.prog 28 #[.slice A l.length c, .func (.func g) fst lb] w fun e w' => e = .returned (.bool (l.any p)) ∧ Below w.heap.size w w' := by
  have hcall := fun W (hb : W = w) => idxTblRow_calls p g fst lb eg A c l W (hb ▸ hr) hc (hb ▸ hp)
  have HC := Aside0.mk hcall
  clear hcall hr hp hc
  have hi := idxOf_range p l
  have hd : decide (0 ≤ idxOf p l) = l.any p := by
    cases h : l.any p
    · apply decide_eq_false; intro q; have := hi.2.2.mp q; rw [h] at this; cases this
    · exact decide_eq_true (hi.2.2.mpr h)
  have HD := Aside0.mk hd
  clear hd hi
  go_enter Tryd.func28, Tryd.ntmps28
  go_wp2_with (go_at_call 46; refine (HC.out _ rfl).mono ?_; rintro e w' ⟨rfl, hb'⟩)
  go_ret
  exact ⟨by rw [← HD.out]; rfl, hb'⟩
end Go.Proofs.YtnednnnegofhkaaDoor.Pr
namespace Go.Proofs.YtnednnnegofhkaaDoor.Pr
open Go.RowKit Go.Proofs.YtnednnnegofhkaaDoorW.PrintWords Go.Proofs.YtnednnnegofhkaaDoorW.PrintLast Go.Proofs.YtnednnnegofhkaaDoorW.PrintMore
attribute [local go_sem] max2_int min2_int max_two min_two max_three min_three max_four min_four
set_option linter.unusedVariables false
set_option linter.unusedSimpArgs false
def impl_TblOk_2.f (k : Nat) (a0_0 : ByteArray) (a0_1 : Int) (a0_2 : Int) (a0_3 : Int) (a0_4 : Int) (a0_5 : Int) (a0_6 : Int) (a0_7 : Int) (a0_8 : Int) (a0_9 : Int) (a0_10 : Int) : Option (Bool) := (impl_CellOk.f k a0_0 a0_1 a0_2 a0_3 a0_4 a0_5 a0_6 a0_7 a0_8 a0_9 a0_10).bind fun t403 => (some (!t403))
theorem bq27_ {w : World} {g : Nat} {t : TypeId} {cs : Array Value} {v : Value} (h : w.heap[g]? = some (.cells cs t (0, 0))) (i : Nat) (e : cs[i]? = some v) : w.cell? ⟨g, i, none⟩ = some v := (blk_cell h i).trans e
set_option maxHeartbeats 8000000 in
set_option maxRecDepth 100000 in
theorem impl_TblOk_2.calls (k : Nat) (a0_0 : ByteArray) (a0_1 : Int) (a0_2 : Int) (a0_3 : Int) (a0_4 : Int) (a0_5 : Int) (a0_6 : Int) (a0_7 : Int) (a0_8 : Int) (a0_9 : Int) (a0_10 : Int) (r : Bool) (w : World) (h : impl_TblOk_2.f k a0_0 a0_1 a0_2 a0_3 a0_4 a0_5 a0_6 a0_7 a0_8 a0_9 a0_10 = some r) :
  Calls Tryd.prog 27 #[.agg #[.string a0_0, .int .i64 a0_1, .int .i64 a0_2, .int .i64 a0_3, .int .i64 a0_4, .int .i64 a0_5, .int .i64 a0_6, .int .i64 a0_7, .int .i64 a0_8, .int .i64 a0_9, .int .i64 a0_10]] w fun e w' => e = .returned (.bool r) ∧ Below w.heap.size w w' := by
 have hu37 := Tryd.underlying37;have HB := Aside0.mk (Below.refl w.heap.size w);have H := h;unfold impl_TblOk_2.f at H;clear h;replace H := Option.bind_eq_some_iff.mp H;obtain ⟨t403, A20, H⟩ := H;(try dsimp only at H);have A2 := Aside0.mk A20;clear A20;obtain rfl := Option.some.inj H;go_enter Tryd.func27, Tryd.ntmps27
 (go_wp2_with (first | ((with_reducible refine gate_dst (N := 1) rfl ?_); refine box_event ?hg (N := 1) ?hd (cs := #[.string a0_0, .int .i64 a0_1, .int .i64 a0_2, .int .i64 a0_3, .int .i64 a0_4, .int .i64 a0_5, .int .i64 a0_6, .int .i64 a0_7, .int .i64 a0_8, .int .i64 a0_9, .int .i64 a0_10]) (t := 37) ?hr ?_; (case hd => rfl); (case hg => rfl); (case hr => go_simp <;> rfl); intro ab hg w3 hbox hb; have n0_ := Aside0.mk (below_step (by repeat (first | (with_reducible first | exact HB.out | apply below_alloc | apply pw_below_drewN | apply below_drew1) | exact HB.out)) hb); have n1_ := Aside0.mk (hbox); have n2_ := Aside0.mk ((by rw [hg]; exact (below_size (by repeat (first | (with_reducible first | exact HB.out | apply below_alloc | apply pw_below_drewN | apply below_drew1) | exact HB.out))) : w.heap.size ≤ ab)); have n3_ := Aside0.mk n2_.out; replace HB := n0_; have aa := n1_; have GW402 := n2_; have ac := n3_; clear n0_ n1_ n2_ n3_; clear hb hbox hg; have af := bq27_ aa.out 0 rfl; have aq := bq27_ aa.out 1 rfl; have av := bq27_ aa.out 2 rfl; have ar := bq27_ aa.out 3 rfl; have aw := bq27_ aa.out 4 rfl; have aA := bq27_ aa.out 5 rfl; have ap := bq27_ aa.out 6 rfl; have ag := bq27_ aa.out 7 rfl; have ax := bq27_ aa.out 8 rfl; have ao := bq27_ aa.out 9 rfl; have ae := bq27_ aa.out 10 rfl; have az := blk_frozen aa.out 0; have ai := blk_frozen aa.out 1; have aj := blk_frozen aa.out 2; have an := blk_frozen aa.out 3; have ak := blk_frozen aa.out 4; have ah := blk_frozen aa.out 5; have au := blk_frozen aa.out 6; have am := blk_frozen aa.out 7; have ay := blk_frozen aa.out 8; have al := blk_frozen aa.out 9; have ad := blk_frozen aa.out 10) | ((with_reducible refine gate_callee (f := 7) rfl ?_); refine goesL_ (some 4) rfl rfl Tryd.func7 (by kernel_rfl) rfl #[.agg #[.string a0_0, .int .i64 a0_1, .int .i64 a0_2, .int .i64 a0_3, .int .i64 a0_4, .int .i64 a0_5, .int .i64 a0_6, .int .i64 a0_7, .int .i64 a0_8, .int .i64 a0_9, .int .i64 a0_10]] rfl (by (try simp only [List.map_toArray, List.map_cons, List.map_nil]); first | done | rfl | (simp only [List.length_drop, List.length_take]; rfl)) ?_; (with_reducible refine (impl_CellOk.calls k a0_0 a0_1 a0_2 a0_3 a0_4 a0_5 a0_6 a0_7 a0_8 a0_9 a0_10 t403 _ A2.out).mono ?_); rintro e w5 ⟨rfl, hb⟩; refine ⟨_, rfl, ?_⟩; have n0_ := Aside0.mk (blk_below (g := ab) (by (with_reducible repeat (first | apply blk_drewN | apply blk_drew | apply blk_alloc)); exact aa.out) hb); have n1_ := Aside0.mk (below_step (by repeat (first | (with_reducible first | exact HB.out | apply below_alloc | apply pw_below_drewN | apply below_drew1 | refine below_set ?_ ac.out) | exact HB.out)) hb); replace aa := n0_; replace HB := n1_; clear n0_ n1_; (try clear hb hk hi))));go_ret;exact ⟨by first | rfl | (simp [errW_none, errW_some] <;> rfl) | (simp [*, errW_none, errW_some] <;> rfl), by repeat (first | (with_reducible first | exact HB.out | apply below_alloc | apply pw_below_drewN | apply below_drew1 | refine below_set ?_ ac.out) | exact HB.out)⟩
end Go.Proofs.YtnednnnegofhkaaDoor.Pr
namespace Go.Proofs.YtnednnnegofhkaaDoor.Pr
open Go.RowKit Go.Proofs.YtnednnnegofhkaaDoorW.PrintWords Go.Proofs.YtnednnnegofhkaaDoorW.PrintLast Go.Proofs.YtnednnnegofhkaaDoorW.PrintMore
attribute [local go_sem] max2_int min2_int max_two min_two max_three min_three max_four min_four
set_option linter.unusedVariables false
set_option linter.unusedSimpArgs false
def tblCellV (x : S37) : Value := .agg #[.string x.f0, .int .i64 x.f1, .int .i64 x.f2, .int .i64 x.f3.f0, .int .i64 x.f3.f1, .int .i64 x.f4.f0, .int .i64 x.f4.f1, .int .i64 x.f5.f0, .int .i64 x.f5.f1, .int .i64 x.f6.f0, .int .i64 x.f6.f1]
set_option maxHeartbeats 4000000 in
theorem idxTblCell_calls (p : S37 → Bool) (g : Nat) (fst lb : Array Value) (eg : ∀ args w, (callFunc g args).run Tryd.prog w = .ok (.enter g args) w) (A : Option Addr) (c : Nat) (l : List S37) (w : World) (hr : Kd.C k37 w A l.length l) (hc : l.length ≤ c)
    (hp : ∀ (W : World) (x : S37), x ∈ l → Below w.heap.size w W → Calls Tryd.prog g (fst.push (tblCellV x) ++ lb) W fun e w' => e = .returned (.bool (p x)) ∧ Below W.heap.size W w') :
    Calls Tryd.prog 47 #[.slice A l.length c, .func (.func g) fst lb] w fun e w' => e = .returned (.int .i64 (idxOf p l)) ∧ Below w.heap.size w w' := by
  have HR := Aside0.mk hr
  have HP := Aside0.mk hp
  have hm := Kd.C_max hr
  clear hr hp
  go_enter Tryd.func47, Tryd.ntmps47
  go_wp2
  go_loopg [5, 8] l.length (fun gk v5 v8 wr => ∃ k : Nat, k ≤ l.length ∧ l.length - k ≤ gk ∧ v8 = .int .i64 k ∧ Aside0 (Below w.heap.size w wr) ∧ Aside0 (∀ j x, j < k → l[j]? = some x → p x = false))
  case atStart => exact ⟨0, Nat.zero_le _, by omega, rfl, ⟨Below.refl _ w⟩, ⟨fun j x hj => absurd hj (Nat.not_lt_zero _)⟩⟩
  case round =>
    obtain ⟨k, hk, hg, rfl, BW, HN⟩ := hrel
    by_cases hlt : k < l.length
    · have hltz : (k : Int) < (l.length : Int) := by omega
      obtain ⟨ad, eA, hx0, hx1, hx2, hx3, hx4, hx5, hx6, hx7, hx8, hx9, hx10⟩ := at_T37 HR.out (k : Int) (by omega) hltz
      cases eA
      replace hx0 := (BW.out.cell (World.block_lt_of_cell? w _ hx0)).trans hx0
      replace hx1 := (BW.out.cell (World.block_lt_of_cell? w _ hx1)).trans hx1
      replace hx2 := (BW.out.cell (World.block_lt_of_cell? w _ hx2)).trans hx2
      replace hx3 := (BW.out.cell (World.block_lt_of_cell? w _ hx3)).trans hx3
      replace hx4 := (BW.out.cell (World.block_lt_of_cell? w _ hx4)).trans hx4
      replace hx5 := (BW.out.cell (World.block_lt_of_cell? w _ hx5)).trans hx5
      replace hx6 := (BW.out.cell (World.block_lt_of_cell? w _ hx6)).trans hx6
      replace hx7 := (BW.out.cell (World.block_lt_of_cell? w _ hx7)).trans hx7
      replace hx8 := (BW.out.cell (World.block_lt_of_cell? w _ hx8)).trans hx8
      replace hx9 := (BW.out.cell (World.block_lt_of_cell? w _ hx9)).trans hx9
      replace hx10 := (BW.out.cell (World.block_lt_of_cell? w _ hx10)).trans hx10
      rw [Int.toNat_natCast] at hx0 hx1 hx2 hx3 hx4 hx5 hx6 hx7 hx8 hx9 hx10
      have hmem := getD_at l k z37 hlt
      have hrd : rd_T37 l (k : Int) = l.getD (k : Int).toNat z37 := rfl
      rw [← hrd] at hmem
      have hcall := HP.out wr (rd_T37 l k) (List.mem_of_getElem? hmem) BW.out
      unfold tblCellV at hcall
      have HM := Aside0.mk hmem
      clear hmem hrd
      cases hq : p (rd_T37 l k) with
      | true =>
        rw [hq] at hcall
        have HQ := Aside0.mk hq
        clear hq
        go_wp2_with ((with_reducible refine hcall.mono ?_); rintro e w' ⟨rfl, hb'⟩)
        go_ret
        exact ⟨by rw [idxOf_hit p l k _ HM.out HQ.out HN.out]; rfl, below_then BW.out BW.out.size hb'⟩
      | false =>
        rw [hq] at hcall
        have HQ := Aside0.mk hq
        clear hq
        go_wp2_with ((with_reducible refine hcall.mono ?_); rintro e w' ⟨rfl, hb'⟩)
        go_roundg (l.length - (k + 1))
        case measure => omega
        case rel =>
          refine ⟨k + 1, by omega, by omega, by go_num, ⟨below_then BW.out BW.out.size hb'⟩, ⟨fun j y hj hy => ?_⟩⟩
          by_cases e : j = k
          · subst e
            rw [HM.out] at hy; cases hy; exact HQ.out
          · exact HN.out j y (by omega) hy
    · have hltz : ¬ (k : Int) < (l.length : Int) := by omega
      have : k = l.length := by omega
      subst this
      go_wp2
      go_ret
      exact ⟨by rw [idxOf_miss p l HN.out]; rfl, BW.out⟩
end Go.Proofs.YtnednnnegofhkaaDoor.Pr
namespace Go.Proofs.YtnednnnegofhkaaDoor.Pr
open Go.RowKit Go.Proofs.YtnednnnegofhkaaDoorW.PrintWords Go.Proofs.YtnednnnegofhkaaDoorW.PrintLast Go.Proofs.YtnednnnegofhkaaDoorW.PrintMore
attribute [local go_sem] max2_int min2_int max_two min_two max_three min_three max_four min_four
set_option linter.unusedVariables false
set_option linter.unusedSimpArgs false
set_option maxHeartbeats 2000000 in
theorem contTblCell_calls (p : S37 → Bool) (g : Nat) (fst lb : Array Value) (eg : ∀ args w, (callFunc g args).run Tryd.prog w = .ok (.enter g args) w) (A : Option Addr) (c : Nat) (l : List S37) (w : World) (hr : Kd.C k37 w A l.length l) (hc : l.length ≤ c)
    (hp : ∀ (W : World) (x : S37), x ∈ l → Below w.heap.size w W → Calls Tryd.prog g (fst.push (tblCellV x) ++ lb) W fun e w' => e = .returned (.bool (p x)) ∧ Below W.heap.size W w') :
    Calls Tryd.prog 30 #[.slice A l.length c, .func (.func g) fst lb] w fun e w' => e = .returned (.bool (l.any p)) ∧ Below w.heap.size w w' := by
  have hcall := fun W (hb : W = w) => idxTblCell_calls p g fst lb eg A c l W (hb ▸ hr) hc (hb ▸ hp)
  have HC := Aside0.mk hcall
  clear hcall hr hp hc
  have hi := idxOf_range p l
  have hd : decide (0 ≤ idxOf p l) = l.any p := by
    cases h : l.any p
    · apply decide_eq_false; intro q; have := hi.2.2.mp q; rw [h] at this; cases this
    · exact decide_eq_true (hi.2.2.mpr h)
  have HD := Aside0.mk hd
  clear hd hi
  go_enter Tryd.func30, Tryd.ntmps30
  go_wp2_with (go_at_call 47; refine (HC.out _ rfl).mono ?_; rintro e w' ⟨rfl, hb'⟩)
  go_ret
  exact ⟨by rw [← HD.out]; rfl, hb'⟩
end Go.Proofs.YtnednnnegofhkaaDoor.Pr
namespace Go.Proofs.YtnednnnegofhkaaDoor.Pr
open Go.RowKit Go.Proofs.YtnednnnegofhkaaDoorW.PrintWords Go.Proofs.YtnednnnegofhkaaDoorW.PrintLast Go.Proofs.YtnednnnegofhkaaDoorW.PrintMore
attribute [local go_sem] max2_int min2_int max_two min_two max_three min_three max_four min_four
set_option linter.unusedVariables false
set_option linter.unusedSimpArgs false
def cellP (k : Nat) (c : S37) : Option Bool := impl_CellOk.f k (c.f0) (c.f1) (c.f2) (c.f3.f0) (c.f3.f1) (c.f4.f0) (c.f4.f1) (c.f5.f0) (c.f5.f1) (c.f6.f0) (c.f6.f1)
def cellB (k : Nat) (c : S37) : Bool := (cellP k c).getD false
def rowB (k : Nat) (l : List S37) : Bool := decide ((l.length : Int) > 5) || l.any fun c => !(cellB k c)
set_option maxHeartbeats 4000000 in
theorem rowB_calls (k : Nat) (b : Bool) (A0 : Option Addr) (c0 : Nat) (l : List S37) (g : Nat) (w : World) (h1 : w.cell? ⟨g, 0, none⟩ = some (.func (.func 27) #[] #[]))
    (hr : Kd.C k37 w A0 l.length l) (hc : l.length ≤ c0) (hk : ∀ c ∈ l, (cellP k c).isSome = true) :
    Calls Tryd.prog 29 #[.agg #[.slice A0 l.length c0, .bool b], .pointer (some ⟨g, 0, none⟩)] w fun e w' => e = .returned (.bool (rowB k l)) ∧ Below w.heap.size w w' := by
  have l1 : g < w.heap.size := World.block_lt_of_cell? w _ h1
  have n1 : ¬ w.heap.size = g := by omega
  have hcall : ∀ W, Below w.heap.size w W → Calls Tryd.prog 30 #[.slice A0 l.length c0, .func (.func 27) #[] #[]] W fun e w' => e = .returned (.bool (l.any fun c => !(cellB k c))) ∧ Below W.heap.size W w' := fun W hb => by
    refine contTblCell_calls (fun c => !(cellB k c)) 27 #[] #[] (enters_ Tryd.func27 (by kernel_rfl) rfl) A0 c0 l W (Kd.C_below hr hb) hc (fun W' x hx _ => ?_)
    obtain ⟨q, hq⟩ := Option.isSome_iff_exists.mp (hk x hx)
    have e : cellB k x = q := by unfold cellB; rw [hq]; rfl
    rw [e]
    exact impl_TblOk_2.calls k _ _ _ _ _ _ _ _ _ _ _ (!q) W' (by unfold impl_TblOk_2.f; have hq2 := hq; unfold cellP at hq2; rw [hq2]; rfl)
  have HC := Aside0.mk hcall
  have bel : ∀ o, Below w.heap.size w (w.alloc o) := fun o => below_alloc (Below.refl w.heap.size w) o
  have HB := Aside0.mk bel
  clear hcall bel hr hk
  unfold rowB
  by_cases c5 : (l.length : Int) > 5
  · have d5 : decide ((l.length : Int) > 5) = true := decide_eq_true c5
    rw [d5]
    go_enter Tryd.func29, Tryd.ntmps29
    go_wp2
    go_ret
    exact ⟨rfl, HB.out _⟩
  · have d5 : decide ((l.length : Int) > 5) = false := decide_eq_false c5
    rw [d5]
    go_enter Tryd.func29, Tryd.ntmps29
    go_wp2_with (go_at_call 30; refine (HC.out _ (HB.out _)).mono ?_; rintro e w' ⟨rfl, hb'⟩)
    go_ret
    exact ⟨by simp, below_then (HB.out _) (HB.out _).size hb'⟩
end Go.Proofs.YtnednnnegofhkaaDoor.Pr
namespace Go.Proofs.YtnednnnegofhkaaDoor.Pr
open Go.RowKit Go.Proofs.YtnednnnegofhkaaDoorW.PrintWords Go.Proofs.YtnednnnegofhkaaDoorW.PrintLast Go.Proofs.YtnednnnegofhkaaDoorW.PrintMore
attribute [local go_sem] max2_int min2_int max_two min_two max_three min_three max_four min_four
set_option linter.unusedVariables false
set_option linter.unusedSimpArgs false
def tin (lo hi n : Int) : Bool := decide (lo ≤ n) && decide (n ≤ hi)
theorem tin_eq (lo hi n : Int) : impl_in.f n lo hi = some (tin lo hi n) := by
  unfold impl_in.f tin
  by_cases h : lo ≤ n
  · rw [if_pos h]; simp [h]
  · rw [if_neg h]; simp [h]
def colB (a b : Int) : Bool := if a = 0 then b == 0 else if a = 1 then tin 0 60 b else if a = 2 then tin 1 100 b else false
theorem colB_eq (a b : Int) : impl_TblCol_ok.f a b = some (colB a b) := by
  unfold impl_TblCol_ok.f colB
  simp only [tin_eq, Option.bind_some]
  split
  · rfl
  · split
    · rfl
    · split <;> rfl
def colsB (l : List S29) : Bool := l.any fun c => !(colB c.f0 c.f1)
def rowsB (k : Nat) (l : List S32) : Bool := l.any fun r => rowB k r.f0
def rowsK (k : Nat) (l : List S32) : Bool := l.all fun r => r.f0.all fun c => (cellP k c).isSome
def impl_TblOk.f (k : Nat) (l0_0 : List S29) (a0_1 a0_2 : Int) (l0_3 : List S32) (a0_4 : Int) : Option Bool :=
  if tin 1 8 (l0_3.length : Int) = true then (if (l0_0.length : Int) > 8 then some false else if tin 0 3 a0_4 = true then
    (if tin 0 (l0_3.length : Int) a0_1 = true then (if tin 0 (wrap64 ((l0_3.length : Int) - a0_1)) a0_2 = true then (if colsB l0_0 = true then some false else if rowsK k l0_3 = true then some (!(rowsB k l0_3)) else none) else some false) else some false) else some false) else some false
theorem any_mem {α : Type} (p q : α → Bool) : ∀ l : List α, (∀ x ∈ l, p x = q x) → l.any p = l.any q
  | [], _ => rfl
  | x :: l, h => by rw [List.any_cons, List.any_cons, h x (by simp), any_mem p q l (fun y hy => h y (by simp [hy]))]
set_option maxHeartbeats 8000000 in
set_option maxRecDepth 100000 in
theorem impl_TblOk.calls (k : Nat) (A0_0 : Option Addr) (c0_0 : Nat) (l0_0 : List S29) (a0_1 a0_2 : Int) (A0_3 : Option Addr) (c0_3 : Nat) (l0_3 : List S32) (a0_4 : Int) (r : Bool) (w : World) (hr0_0 : Kd.C k29 w A0_0 l0_0.length l0_0) (hc0_0 : l0_0.length ≤ c0_0) (hr0_3 : Kd.C k32 w A0_3 l0_3.length l0_3) (hc0_3 : l0_3.length ≤ c0_3) (h : impl_TblOk.f k l0_0 a0_1 a0_2 l0_3 a0_4 = some r) :
    Calls Tryd.prog 8 #[.agg #[.slice A0_0 l0_0.length c0_0, .int .i64 a0_1, .int .i64 a0_2, .slice A0_3 l0_3.length c0_3, .int .i64 a0_4]] w fun e w' => e = .returned (.bool r) ∧ Below w.heap.size w w' := by
  unfold impl_TblOk.f at h
  have bel : ∀ o, Below w.heap.size w (w.alloc o) := fun o => below_alloc (Below.refl w.heap.size w) o
  have HB := Aside0.mk bel
  have hm := Kd.C_max hr0_3
  have i1 := fun W => impl_in.calls (l0_3.length : Int) 1 8 _ W (tin_eq 1 8 (l0_3.length : Int))
  have i3 := fun W => impl_in.calls a0_4 0 3 _ W (tin_eq 0 3 a0_4)
  have i4 := fun W => impl_in.calls a0_1 0 (l0_3.length : Int) _ W (tin_eq 0 (l0_3.length : Int) a0_1)
  have i5 := fun W => impl_in.calls a0_2 0 (wrap64 ((l0_3.length : Int) - a0_1)) _ W (tin_eq 0 (wrap64 ((l0_3.length : Int) - a0_1)) a0_2)
  have hcol : ∀ W, Below w.heap.size w W → Calls Tryd.prog 24 #[.slice A0_0 l0_0.length c0_0, .func (.func 25) #[] #[]] W fun e w' => e = .returned (.bool (colsB l0_0)) ∧ Below W.heap.size W w' := fun W hb => by
    refine contTblCol_calls (fun c => !(colB c.f0 c.f1)) 25 #[] #[] (enters_ Tryd.func25 (by kernel_rfl) rfl) A0_0 c0_0 l0_0 W (Kd.C_below hr0_0 hb) hc0_0 (fun W' x _ _ => ?_)
    exact impl_TblOk_1.calls x.f0 x.f1 _ W' (by unfold impl_TblOk_1.f; rw [colB_eq]; rfl)
  have hrow : rowsK k l0_3 = true → ∀ (W : World) (g : Nat), Below w.heap.size w W → W.cell? ⟨g, 0, none⟩ = some (.func (.func 27) #[] #[]) → Calls Tryd.prog 28 #[.slice A0_3 l0_3.length c0_3, .func (.func 29) #[] #[.pointer (some ⟨g, 0, none⟩)]] W fun e w' => e = .returned (.bool (rowsB k l0_3)) ∧ Below W.heap.size W w' := fun hk W g hb hg => by
    refine contTblRow_calls (fun r => rowB k r.f0) 29 #[] #[.pointer (some ⟨g, 0, none⟩)] (enters_ Tryd.func29 (by kernel_rfl) rfl) A0_3 c0_3 l0_3 W (Kd.C_below hr0_3 hb) hc0_3 (fun W' x A' c' hx hb' hl hC => ?_)
    refine rowB_calls k x.f1 A' c' x.f0 g W' ((hb'.cell (World.block_lt_of_cell? W _ hg)).trans hg) hC hl (fun c hc => ?_)
    unfold rowsK at hk
    exact List.all_eq_true.mp (List.all_eq_true.mp hk x hx) c hc
  clear hr0_0 hr0_3 bel
  generalize tin 1 8 (l0_3.length : Int) = b1 at *
  generalize tin 0 3 a0_4 = b3 at *
  generalize tin 0 (l0_3.length : Int) a0_1 = b4 at *
  generalize tin 0 (wrap64 ((l0_3.length : Int) - a0_1)) a0_2 = b5 at *
  generalize colsB l0_0 = b6 at *
  cases b1 with
  | false =>
    obtain rfl : false = r := by simpa using h
    have I1 := Aside0.mk i1
    clear i1 i3 i4 i5 hcol hrow h
    go_enter Tryd.func8, Tryd.ntmps8
    go_wp2_with ((go_at_call 22; (with_reducible refine (I1.out _).mono ?_); rintro e w' ⟨rfl, ⟨nd, rfl⟩⟩))
    go_ret
    exact ⟨rfl, by repeat (first | exact HB.out _ | apply pw_below_drewN)⟩
  | true =>
  have I1 := Aside0.mk i1
  clear i1
  rw [if_pos rfl] at h
  by_cases c8 : (l0_0.length : Int) > 8
  · rw [if_pos c8] at h
    obtain rfl : false = r := by simpa using h
    have d8 : decide ((l0_0.length : Int) > 8) = true := decide_eq_true c8
    clear i3 i4 i5 hcol hrow h
    go_enter Tryd.func8, Tryd.ntmps8
    go_wp2_with ((go_at_call 22; (with_reducible refine (I1.out _).mono ?_); rintro e w' ⟨rfl, ⟨nd, rfl⟩⟩))
    go_ret
    exact ⟨rfl, by repeat (first | exact HB.out _ | apply pw_below_drewN)⟩
  rw [if_neg c8] at h
  have d8 : decide ((l0_0.length : Int) > 8) = false := decide_eq_false c8
  cases b3 with
  | false =>
    obtain rfl : false = r := by simpa using h
    have I3 := Aside0.mk i3
    clear i3 i4 i5 hcol hrow h
    go_enter Tryd.func8, Tryd.ntmps8
    go_wp2_with (first | (go_at_call 22; (with_reducible refine (I1.out _).mono ?_); rintro e w' ⟨rfl, ⟨nd, rfl⟩⟩) | (go_at_call 22; (with_reducible refine (I3.out _).mono ?_); rintro e w' ⟨rfl, ⟨nd, rfl⟩⟩))
    go_ret
    exact ⟨rfl, by repeat (first | exact HB.out _ | apply pw_below_drewN)⟩
  | true =>
  have I3 := Aside0.mk i3
  clear i3
  rw [if_pos rfl] at h
  cases b4 with
  | false =>
    obtain rfl : false = r := by simpa using h
    have I4 := Aside0.mk i4
    clear i4 i5 hcol hrow h
    go_enter Tryd.func8, Tryd.ntmps8
    go_wp2_with (first | (go_at_call 22; (with_reducible refine (I1.out _).mono ?_); rintro e w' ⟨rfl, ⟨nd, rfl⟩⟩) | (go_at_call 22; (with_reducible refine (I3.out _).mono ?_); rintro e w' ⟨rfl, ⟨nd, rfl⟩⟩) | (go_at_call 22; (with_reducible refine (I4.out _).mono ?_); rintro e w' ⟨rfl, ⟨nd, rfl⟩⟩))
    go_ret
    exact ⟨rfl, by repeat (first | exact HB.out _ | apply pw_below_drewN)⟩
  | true =>
  have I4 := Aside0.mk i4
  clear i4
  rw [if_pos rfl] at h
  cases b5 with
  | false =>
    obtain rfl : false = r := by simpa using h
    have I5 := Aside0.mk i5
    clear i5 hcol hrow h
    go_enter Tryd.func8, Tryd.ntmps8
    go_wp2_with (first | (go_at_call 22; (with_reducible refine (I1.out _).mono ?_); rintro e w' ⟨rfl, ⟨nd, rfl⟩⟩) | (go_at_call 22; (with_reducible refine (I3.out _).mono ?_); rintro e w' ⟨rfl, ⟨nd, rfl⟩⟩) | (go_at_call 22; (with_reducible refine (I4.out _).mono ?_); rintro e w' ⟨rfl, ⟨nd, rfl⟩⟩) | (go_at_call 22; (with_reducible refine (I5.out _).mono ?_); rintro e w' ⟨rfl, ⟨nd, rfl⟩⟩))
    go_ret
    exact ⟨rfl, by repeat (first | exact HB.out _ | apply pw_below_drewN)⟩
  | true =>
  have I5 := Aside0.mk i5
  clear i5
  rw [if_pos rfl] at h
  cases b6 with
  | true =>
    obtain rfl : false = r := by simpa using h
    have IC := Aside0.mk hcol
    clear hcol hrow h
    go_enter Tryd.func8, Tryd.ntmps8
    go_wp2_with (first | (go_at_call 22; (with_reducible refine (I1.out _).mono ?_); rintro e w' ⟨rfl, ⟨nd, rfl⟩⟩) | (go_at_call 22; (with_reducible refine (I3.out _).mono ?_); rintro e w' ⟨rfl, ⟨nd, rfl⟩⟩) | (go_at_call 22; (with_reducible refine (I4.out _).mono ?_); rintro e w' ⟨rfl, ⟨nd, rfl⟩⟩) | (go_at_call 22; (with_reducible refine (I5.out _).mono ?_); rintro e w' ⟨rfl, ⟨nd, rfl⟩⟩) | (go_at_call 24; (with_reducible refine (IC.out _ (by repeat (first | exact HB.out _ | apply pw_below_drewN))).mono ?_); rintro e wc ⟨rfl, hbc⟩; have HBC := Aside0.mk (below_step (by repeat (first | exact HB.out _ | apply pw_below_drewN)) hbc); have HKC := Aside0.mk (blk_below (by (repeat (first | exact blk_new _ _ | refine blk_drewN ?_ _)) : _) hbc); have hz3 : wc.cell? ⟨w.heap.size, 3, none⟩ = some (.slice A0_3 l0_3.length c0_3) := (blk_cell HKC.out 3).trans rfl; have hlw : w.heap.size < wc.heap.size := blk_lt HKC.out; have hnw : ¬ w.heap.size = wc.heap.size := Nat.ne_of_lt hlw; clear hbc))
    go_ret
    exact ⟨rfl, HBC.out⟩
  | false =>
  have IC := Aside0.mk hcol
  clear hcol
  rw [if_neg (by simp)] at h
  by_cases hk : rowsK k l0_3 = true
  case neg => rw [if_neg hk] at h; cases h
  rw [if_pos hk] at h
  obtain rfl := Option.some.inj h
  have IR := Aside0.mk (hrow hk)
  clear hrow h hk
  go_enter Tryd.func8, Tryd.ntmps8
  go_wp2_with (first | (go_at_call 22; (with_reducible refine (I1.out _).mono ?_); rintro e w' ⟨rfl, ⟨nd, rfl⟩⟩) | (go_at_call 22; (with_reducible refine (I3.out _).mono ?_); rintro e w' ⟨rfl, ⟨nd, rfl⟩⟩) | (go_at_call 22; (with_reducible refine (I4.out _).mono ?_); rintro e w' ⟨rfl, ⟨nd, rfl⟩⟩) | (go_at_call 22; (with_reducible refine (I5.out _).mono ?_); rintro e w' ⟨rfl, ⟨nd, rfl⟩⟩) | (go_at_call 24; (with_reducible refine (IC.out _ (by repeat (first | exact HB.out _ | apply pw_below_drewN))).mono ?_); rintro e wc ⟨rfl, hbc⟩; have HBC := Aside0.mk (below_step (by repeat (first | exact HB.out _ | apply pw_below_drewN)) hbc); have HKC := Aside0.mk (blk_below (by (repeat (first | exact blk_new _ _ | refine blk_drewN ?_ _)) : _) hbc); have hz3 : wc.cell? ⟨w.heap.size, 3, none⟩ = some (.slice A0_3 l0_3.length c0_3) := (blk_cell HKC.out 3).trans rfl; have hlw : w.heap.size < wc.heap.size := blk_lt HKC.out; have hnw : ¬ w.heap.size = wc.heap.size := Nat.ne_of_lt hlw; clear hbc) | ((with_reducible refine gate_dst (N := 3) rfl ?_); refine box_event ?hg (N := 3) ?hd (cs := #[.nilFunc]) (t := 33) ?hr ?_; (case hd => rfl); (case hg => rfl); (case hr => first | (go_simp; done) | (go_simp; rfl)); intro gb hgb w4 hbox hb; have hbc : w4.cell? ⟨gb, 0, none⟩ = some .nilFunc := (blk_cell hbox 0).trans rfl; have hbf : w4.frozen? ⟨gb, 0, none⟩ = false := blk_frozen hbox 0; have hlw4 : w.heap.size < gb := (by rw [hgb]; exact hlw); have hz34 : (w4.setCell ⟨gb, 0, none⟩ (.func (.func 27) #[] #[])).cell? ⟨w.heap.size, 3, none⟩ = some (.slice A0_3 l0_3.length c0_3) := (World.cell?_setCell_other _ _ _ _ (by intro h_; have h2_ := congrArg Addr.block h_; dsimp only at h2_; omega)).trans ((hb.cell hlw).trans hz3); have HQ1 := Aside0.mk (below_set (j := 0) (v := .func (.func 27) #[] #[]) (below_step HBC.out hb) (Nat.le_of_lt hlw4)); have HQ2 := Aside0.mk (World.cell?_setCell_same w4 ⟨gb, 0, none⟩ (.func (.func 27) #[] #[]) hbc); clear hgb hbox hb hlw4) | (go_at_call 28; (with_reducible refine (IR.out _ gb HQ1.out HQ2.out).mono ?_); rintro e wd ⟨rfl, hbd⟩; have HBD := Aside0.mk (below_step HQ1.out hbd); clear hbd))
  go_ret
  exact ⟨rfl, HBD.out⟩
end Go.Proofs.YtnednnnegofhkaaDoor.Pr
