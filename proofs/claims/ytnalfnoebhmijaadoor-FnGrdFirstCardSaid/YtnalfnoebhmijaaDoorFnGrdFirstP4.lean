/- A part of what the claim of 'FnGrdFirst' leans on. -/
import Derived.Test.YtnalfnoebhmijaaDoorFnGrdFirstP0
import Derived.Test.YtnalfnoebhmijaaDoorFnGrdFirstShelf
import Derived.Test.YtnalfnoebhmijaaDoorFnGrdFirstQCut
import Derived.Laws.EntriesVeiled
namespace Go.Proofs.YtnalfnoebhmijaaDoor.Pr
open Go.RowKit Go.Proofs.YtnalfnoebhmijaaDoorW.PrintWords Go.Proofs.YtnalfnoebhmijaaDoorW.PrintLast Go.Proofs.YtnalfnoebhmijaaDoorW.PrintMore
attribute [local go_sem] max2_int min2_int max_two min_two max_three min_three max_four min_four
set_option linter.unusedVariables false
set_option linter.unusedSimpArgs false
def strings_Split.f (a0 a1 : ByteArray) : Option (List ByteArray) := if a1.data.toList = [32] ∧ a0.size < 4294967281 then some (Pure.cutB a0) else none
theorem byte_one (a : ByteArray) (h : a.data.toList = [32]) : a = Pure.blank1 := by
  have : a.data = #[32] := by rw [← Array.toArray_toList (xs := a.data), h]
  cases a with | mk d => simp only at this; subst this; rfl
theorem cutB_length (s : ByteArray) : (Pure.cutB s).length = s.data.toList.count 32 + 1 := by rw [Pure.cutB, List.length_map, Pure.cutL_length]
set_option maxHeartbeats 2000000 in
theorem split_calls (s : ByteArray) (w : World) (hs : s.size < 4294967281) :
    Calls Tryd.prog 57 #[.string s, .string Pure.blank1] w fun e w' =>
      e = .returned (.slice (some ⟨w.heap.size, 0, none⟩) (Pure.cutB s).length (Pure.cutB s).length) ∧ w' = w.alloc (.cells ((Pure.cutB s).map Value.string).toArray 9) := by
  have hN : ((Pure.cutB s).length : Int) = min (if (-1 : Int) < 0 then (Go.Lib.countB s Pure.blank1 : Int) + 1 else -1) ((s.size : Int) + 1) := by
    have h1 := Go.Lib.countB_le Pure.blank1 (by decide) s.size s (Nat.le_refl _)
    rw [cutB_length, Pure.countB_blank] at *
    rw [if_pos (by decide)]; omega
  have hl : (Pure.cutB s).length - 1 = Go.Lib.countB s Pure.blank1 := by rw [cutB_length, Pure.countB_blank]; omega
  have c := Any.strings_genSplit_core { Tryd.lays146 with } (by kernel_rfl) s Pure.blank1 0 (-1) (Pure.cutB s).length w hs (by decide) (Nat.zero_le _)
    (fun x c hx => by have h := Any.strings_Index_one { Tryd.lays146 with } x 32 (w.alloc (.cells c (Tryd.lays146_ren.t 9))); rw [← Go.Lib.index_one] at h; exact h)
    (by have h := Any.strings_Count_one { Tryd.lays146 with } s 32 w; rw [show Go.Lib.countByte s.data.toList 32 = Go.Lib.countB s Pure.blank1 from (Go.Lib.count_one 32 _).symm] at h; exact h) (by decide) (by decide) hN
  rw [hl, Pure.splitB_cut, Go.Lib.cellsOf_full] at c
  have c2 : Calls Tryd.prog 66 #[.string s, .string Pure.blank1, .int .i64 0, .int .i64 (-1)] w fun e w' => e = .returned (.slice (some ⟨w.heap.size, 0, none⟩) (Pure.cutB s).length (Pure.cutB s).length) ∧ w' = w.alloc (.cells ((Pure.cutB s).map Value.string).toArray 9) := c
  have HC := Aside0.mk c2
  clear c c2 hN hl
  go_enter Tryd.func57, Tryd.ntmps57
  go_wp2_with (go_at_call 66; refine HC.out.mono ?_; rintro e w' ⟨rfl, hw⟩; rw [hw])
  go_ret
  exact ⟨rfl, rfl⟩
theorem strings_Split.calls (a0 a1 : ByteArray) (r : List ByteArray) (w : World) (h : strings_Split.f a0 a1 = some r) :
    Calls Tryd.prog 57 #[.string a0, .string a1] w fun e w' => ∃ v0_ : Value, e = .returned (v0_) ∧ Kd.R Kd.string 9 w' w.heap.size (fun _ => True) v0_ r ∧ Below w.heap.size w w' := by
  unfold strings_Split.f at h
  by_cases c : a1.data.toList = [32] ∧ a0.size < 4294967281
  case neg => rw [if_neg c] at h; cases h
  rw [if_pos c] at h
  obtain rfl := Option.some.inj h
  obtain rfl := byte_one a1 c.1
  refine (split_calls a0 w c.2).mono ?_
  rintro e w' ⟨rfl, rfl⟩
  have hm : (Pure.cutB a0).length ≤ maxLen := by
    have h1 := Go.Lib.countB_le Pure.blank1 (by decide) a0.size a0 (Nat.le_refl _)
    rw [Pure.countB_blank] at h1
    rw [cutB_length]; have := c.2; unfold maxLen; omega
  refine ⟨_, rfl, Kd.R_of_own ⟨by simp [encs], .inr ⟨w.heap.size, (Pure.cutB a0).length, ((Pure.cutB a0).map Value.string).toArray, rfl, Nat.le_refl _, blk_new w _, Nat.le_refl _, hm, by simp, ?_⟩⟩ (fun _ _ => trivial), below_alloc (Below.refl _ _) _⟩
  simp only [encs, Nat.mul_one]
  rw [List.take_of_length_le (by simp)]
end Go.Proofs.YtnalfnoebhmijaaDoor.Pr
namespace Go.Proofs.YtnalfnoebhmijaaDoor.Pr
open Go.RowKit Go.Proofs.YtnalfnoebhmijaaDoorW.PrintWords Go.Proofs.YtnalfnoebhmijaaDoorW.PrintLast Go.Proofs.YtnalfnoebhmijaaDoorW.PrintMore
attribute [local go_sem] max2_int min2_int max_two min_two max_three min_three max_four min_four
set_option linter.unusedVariables false
set_option linter.unusedSimpArgs false
def strings_Trim.f (a0 a1 : ByteArray) : Option ByteArray := if a1.data.toList = Pure.letters26 ∧ a0.size ≤ 9223372036854775807 then some ⟨(Go.Lib.trimS a0.data.toList Pure.letters26).toArray⟩ else none
theorem strings_Trim.calls (a0 a1 : ByteArray) (r : ByteArray) (w : World) (h : strings_Trim.f a0 a1 = some r) :
    Calls Tryd.prog 58 #[.string a0, .string a1] w fun e w' => e = .returned (.string r) ∧ Below w.heap.size w w' := by
  unfold strings_Trim.f at h
  by_cases c : a1.data.toList = Pure.letters26 ∧ a0.size ≤ 9223372036854775807
  case neg => rw [if_neg c] at h; cases h
  rw [if_pos c] at h
  obtain rfl := Option.some.inj h
  have e : a1 = ⟨Pure.letters26.toArray⟩ := by
    have : a1.data = Pure.letters26.toArray := by rw [← Array.toArray_toList (xs := a1.data), c.1]
    cases a1 with | mk d => simp only at this; subst this; rfl
  subst e
  exact Any.strings_Trim_laid Tryd.lays160 (by kernel_rfl) a0 ⟨Pure.letters26.toArray⟩ w c.2 (by decide) (ascii_of_all (by decide))
end Go.Proofs.YtnalfnoebhmijaaDoor.Pr
namespace Go.Proofs.YtnalfnoebhmijaaDoor.Pr
open Go.RowKit Go.Proofs.YtnalfnoebhmijaaDoorW.PrintWords Go.Proofs.YtnalfnoebhmijaaDoorW.PrintLast Go.Proofs.YtnalfnoebhmijaaDoorW.PrintMore
attribute [local go_sem] max2_int min2_int max_two min_two max_three min_three max_four min_four
set_option linter.unusedVariables false
set_option linter.unusedSimpArgs false
def impl_TxtOk.l0 : Nat → ByteArray → List ByteArray → Int → Int → Option (Bool)
  | 0, _, _, _, _ => none
  | k + 1, x0, x8, x9, x10 => if x10 < x9 then (if 0 ≤ x10 then (if x10 < (x8.length : Int) then (if (rdOf ByteArray.empty x8 x10).toList = ([] : List UInt8) then (some false) else ((strings_Trim.f (rdOf ByteArray.empty x8 x10) (⟨#[97, 98, 99, 100, 101, 102, 103, 104, 105, 106, 107, 108, 109, 110, 111, 112, 113, 114, 115, 116, 117, 118, 119, 120, 121, 122]⟩ : ByteArray)).bind fun t388 => (if t388.toList = ([] : List UInt8) then (impl_TxtOk.l0 k x0 x8 x9 (wrap64 (x10 + 1))) else (some false)))) else (none)) else (none)) else (some (decide ((x0.size : Int) ≤ 30)))
def impl_TxtOk.f (k : Nat) (a0 : ByteArray) : Option (Bool) := if a0.toList = ([] : List UInt8) then (some true) else ((strings_Split.f a0 (⟨#[32]⟩ : ByteArray)).bind fun t384 => (impl_TxtOk.l0 k a0 t384 (t384.length : Int) 0))
set_option maxHeartbeats 8000000 in
set_option maxRecDepth 100000 in
theorem impl_TxtOk.calls (k : Nat) (a0 : ByteArray) (r : Bool) (w : World) (h : impl_TxtOk.f k a0 = some r) :
  Calls Tryd.prog 37 #[.string a0] w fun e w' => e = .returned (.bool r) ∧ Below w.heap.size w w' := by
 have HB := Aside0.mk (Below.refl w.heap.size w);have H := h;unfold impl_TxtOk.f at H;clear h;by_cases c2 : a0.toList = ([] : List UInt8);(·rw [if_pos c2] at H;have aj : (a0.toList == ([] : List UInt8)) = true := beq_iff_eq.mpr c2;have ai : (a0.toList != ([] : List UInt8)) = false := bne_eq_false_iff_eq.mpr c2;clear c2;obtain rfl := Option.some.inj H;go_enter Tryd.func37, Tryd.ntmps37;go_wp2;go_ret;exact ⟨by first | rfl | (simp [errW_none, errW_some] <;> rfl) | (simp [*, errW_none, errW_some] <;> rfl), bl_ HB.out⟩)
 rw [if_neg c2] at H;have aj : (a0.toList == ([] : List UInt8)) = false := beq_eq_false_iff_ne.mpr c2;have ai : (a0.toList != ([] : List UInt8)) = true := bne_iff_ne.mpr c2;obtain ⟨t384, A3, H⟩ := ob_ H;(try dsimp only at H);have H' := Aside0.mk H;clear H;go_enter Tryd.func37, Tryd.ntmps37;(go_wp2_with (first | ((with_reducible refine gate_callee (f := 57) rfl ?_); refine gl_ (some 8) Tryd.func57 #[.string a0, .string (⟨#[32]⟩ : ByteArray)] ?_; (with_reducible refine (strings_Split.calls a0 (⟨#[32]⟩ : ByteArray) t384 _ A3.out).mono ?_); rintro e w4 ⟨v385, rfl, ho0, hb⟩; refine ⟨_, rfl, ?_⟩; have n0_ := Aside0.mk (Kd.R_lower ho0 (below_size (bl_ HB.out))); have n1_ := Aside0.mk (below_step (bl_ HB.out) hb); have ah := n0_; replace HB := n1_; clear n0_ n1_; (try clear hb hk hi); (try clear ho0); obtain ⟨Ao5, co5, eo5⟩ := Kd.R_slice ah.out; subst eo5)));go_loopg [10] k (fun kq v10 w' => ∃ (aa : Int), v10 = .int .i64 aa ∧ Aside0 (impl_TxtOk.l0 kq a0 t384 (t384.length : Int) aa = some r) ∧ Aside0 (kq ≤ k) ∧ Aside0 (Kd.R Kd.string 9 w' w.heap.size (fun _ => True) (.slice Ao5 t384.length co5) t384) ∧ Aside0 (Below w.heap.size w w'));(case atStart => exact ⟨(0), (by first | rfl | (simp; done) | (simp [*]; done)), H', ⟨Nat.le_refl _⟩, ⟨kr_ ah.out⟩, ⟨bl_ HB.out⟩⟩)
 case round =>
  clear H';(try clear c2);(try clear aj);(try clear ai);(try clear p2);(try clear c3);(try clear c5);obtain ⟨aa, rfl, HA, HK1, ad, HB⟩ := hrel
  cases gk with
   | zero => exact absurd HA.out (by simp [impl_TxtOk.l0])
   | succ k1 =>
    have H := HA.out;clear HA;simp only [impl_TxtOk.l0] at H;by_cases c6 : aa < (t384.length : Int)
    ·rw [if_pos c6] at H;have ap : decide (aa < (t384.length : Int)) = true := decide_eq_true c6;clear c6;by_cases c7 : 0 ≤ aa
     ·rw [if_pos c7] at H;have c7b0 : decide (0 ≤ aa) = true := decide_eq_true c7;clear c7;by_cases c8 : aa < (t384.length : Int)
      ·rw [if_pos c8] at H;have c8b0 : decide (aa < (t384.length : Int)) = true := decide_eq_true c8;clear c8;by_cases c9 : (rdOf ByteArray.empty t384 aa).toList = ([] : List UInt8);(·rw [if_pos c9] at H;have ao : ((rdOf ByteArray.empty t384 aa).toList == ([] : List UInt8)) = true := beq_iff_eq.mpr c9;have an : ((rdOf ByteArray.empty t384 aa).toList != ([] : List UInt8)) = false := bne_eq_false_iff_eq.mpr c9;clear c9;obtain rfl := Option.some.inj H;have ac : 0 ≤ (aa : Int) := dq_;have ab : aa < (t384.length : Int) := dq_;obtain ⟨ag, ae, af⟩ := Kd.at_string (Kd.R_reads' ad.out).2.2 aa ac ab;cases ae;replace ac := eq_true ac;replace ab := eq_true ab;go_wp2;go_ret;exact ⟨by first | rfl | (simp [errW_none, errW_some] <;> rfl) | (simp [*, errW_none, errW_some] <;> rfl), bl_ HB.out⟩)
       rw [if_neg c9] at H;have ao : ((rdOf ByteArray.empty t384 aa).toList == ([] : List UInt8)) = false := beq_eq_false_iff_ne.mpr c9;have an : ((rdOf ByteArray.empty t384 aa).toList != ([] : List UInt8)) = true := bne_iff_ne.mpr c9;obtain ⟨t388, A10, H⟩ := ob_ H;(try dsimp only at H);by_cases c11 : t388.toList = ([] : List UInt8);(·rw [if_pos c11] at H;have am : (t388.toList == ([] : List UInt8)) = true := beq_iff_eq.mpr c11;have al : (t388.toList != ([] : List UInt8)) = false := bne_eq_false_iff_eq.mpr c11;clear c11;have H' := Aside0.mk H;clear H;have ac : 0 ≤ (aa : Int) := dq_;have ab : aa < (t384.length : Int) := dq_;obtain ⟨ag, ae, af⟩ := Kd.at_string (Kd.R_reads' ad.out).2.2 aa ac ab;cases ae;replace ac := eq_true ac;replace ab := eq_true ab;(go_wp2_with (first | (go_at_call 58; (with_reducible refine (strings_Trim.calls (rdOf ByteArray.empty t384 aa) (⟨#[97, 98, 99, 100, 101, 102, 103, 104, 105, 106, 107, 108, 109, 110, 111, 112, 113, 114, 115, 116, 117, 118, 119, 120, 121, 122]⟩ : ByteArray) t388 _ A10.out).mono ?_); rintro e w12 ⟨rfl, hb⟩; have n0_ := Aside0.mk (Kd.R_below (kr_ ad.out) hb); have n1_ := Aside0.mk (below_step (bl_ HB.out) hb); replace ad := n0_; replace HB := n1_; clear n0_ n1_; (try clear hb hk hi))));go_roundg k1;(case measure => have := HK1.out; omega);(case rel => exact ⟨(wrap64 (aa + 1)), (by first | rfl | (simp; done) | (simp [*]; done)), H', ⟨by have := HK1.out; omega⟩, ⟨kr_ ad.out⟩, ⟨bl_ HB.out⟩⟩))
       rw [if_neg c11] at H;have am : (t388.toList == ([] : List UInt8)) = false := beq_eq_false_iff_ne.mpr c11;have al : (t388.toList != ([] : List UInt8)) = true := bne_iff_ne.mpr c11;obtain rfl := Option.some.inj H;have ac : 0 ≤ (aa : Int) := dq_;have ab : aa < (t384.length : Int) := dq_;obtain ⟨ag, ae, af⟩ := Kd.at_string (Kd.R_reads' ad.out).2.2 aa ac ab;cases ae;replace ac := eq_true ac;replace ab := eq_true ab;(go_wp2_with (first | (go_at_call 58; (with_reducible refine (strings_Trim.calls (rdOf ByteArray.empty t384 aa) (⟨#[97, 98, 99, 100, 101, 102, 103, 104, 105, 106, 107, 108, 109, 110, 111, 112, 113, 114, 115, 116, 117, 118, 119, 120, 121, 122]⟩ : ByteArray) t388 _ A10.out).mono ?_); rintro e w13 ⟨rfl, hb⟩; have n0_ := Aside0.mk (Kd.R_below (kr_ ad.out) hb); have n1_ := Aside0.mk (below_step (bl_ HB.out) hb); replace ad := n0_; replace HB := n1_; clear n0_ n1_; (try clear hb hk hi))));go_ret;exact ⟨by first | rfl | (simp [errW_none, errW_some] <;> rfl) | (simp [*, errW_none, errW_some] <;> rfl), bl_ HB.out⟩
      rw [if_neg c8] at H;exact absurd H (by simp)
     rw [if_neg c7] at H;exact absurd H (by simp)
    rw [if_neg c6] at H;have ap : decide (aa < (t384.length : Int)) = false := decide_eq_false c6;clear c6;obtain rfl := Option.some.inj H;go_wp2;go_ret;exact ⟨by first | rfl | (simp [errW_none, errW_some] <;> rfl) | (simp [*, errW_none, errW_some] <;> rfl), bl_ HB.out⟩
end Go.Proofs.YtnalfnoebhmijaaDoor.Pr
namespace Go.Proofs.YtnalfnoebhmijaaDoor.Pr
open Go.RowKit Go.Proofs.YtnalfnoebhmijaaDoorW.PrintWords Go.Proofs.YtnalfnoebhmijaaDoorW.PrintLast Go.Proofs.YtnalfnoebhmijaaDoorW.PrintMore
attribute [local go_sem] max2_int min2_int max_two min_two max_three min_three max_four min_four
set_option linter.unusedVariables false
set_option linter.unusedSimpArgs false
def laws_pwOk.f (k : Nat)  : Option (Bool) := (impl_TxtOk.f k (⟨#[97, 98, 32, 99]⟩ : ByteArray)).bind fun t404 => (some t404)
set_option maxHeartbeats 8000000 in
set_option maxRecDepth 100000 in
theorem laws_pwOk.calls (k : Nat)  (r : Bool) (w : World) (h : laws_pwOk.f k  = some r) :
    Calls Tryd.prog 10 #[] w fun e w' => e = .returned (.bool r) ∧ Below w.heap.size w w' := by
  have HB := Aside0.mk (Below.refl w.heap.size w)
  have H : ((impl_TxtOk.f k (⟨#[97, 98, 32, 99]⟩ : ByteArray)).bind fun t404 => (some t404)) = some r := h
  clear h
  replace H := Option.bind_eq_some_iff.mp H
  obtain ⟨t404, A10, H⟩ := H
  replace H : (some t404) = some r := H
  have A1 := Aside0.mk A10
  clear A10
  obtain rfl := Option.some.inj H
  go_enter Tryd.func10, Tryd.ntmps10
  go_wp2_with (first | ((with_reducible refine gate_callee (f := 37) rfl ?_); refine goesL_ (some 1) rfl rfl Tryd.func37 (by kernel_rfl) rfl #[.string (⟨#[97, 98, 32, 99]⟩ : ByteArray)] rfl (by (try simp only [List.map_toArray, List.map_cons, List.map_nil]); first | done | rfl | (simp only [List.length_drop, List.length_take]; rfl)) ?_; (with_reducible refine (impl_TxtOk.calls k (⟨#[97, 98, 32, 99]⟩ : ByteArray) t404 _ A1.out).mono ?_); rintro e w2 ⟨rfl, hb⟩; refine ⟨_, rfl, ?_⟩; have n0_ := Aside0.mk (below_step (by repeat (first | (with_reducible first | exact HB.out | apply below_alloc | apply pw_below_drewN | apply below_drew1) | exact HB.out)) hb); clear HB; have HB := n0_; clear n0_; (try clear hb); (try clear hb2); (try clear hk); (try clear hi)))
  go_ret
  exact ⟨by first | rfl | (simp [errW_none, errW_some] <;> rfl) | (simp [*, errW_none, errW_some] <;> rfl), by repeat (first | (with_reducible first | exact HB.out | apply below_alloc | apply pw_below_drewN | apply below_drew1) | exact HB.out)⟩
end Go.Proofs.YtnalfnoebhmijaaDoor.Pr
namespace Go.Proofs.YtnalfnoebhmijaaDoor.Pr
open Go.RowKit Go.Proofs.YtnalfnoebhmijaaDoorW.PrintWords Go.Proofs.YtnalfnoebhmijaaDoorW.PrintLast Go.Proofs.YtnalfnoebhmijaaDoorW.PrintMore
attribute [local go_sem] max2_int min2_int max_two min_two max_three min_three max_four min_four
set_option linter.unusedVariables false
set_option linter.unusedSimpArgs false
def impl_in.f (a0 : Int) (a1 : Int) (a2 : Int) : Option (Bool) := if a0 ≥ a1 then (some (decide (a0 ≤ a2))) else (some false)
set_option maxHeartbeats 8000000 in
set_option maxRecDepth 100000 in
theorem impl_in.calls (a0 : Int) (a1 : Int) (a2 : Int) (r : Bool) (w : World) (h : impl_in.f a0 a1 a2 = some r) :
    Calls Tryd.prog 28 #[.int .i64 a0, .int .i64 a1, .int .i64 a2] w fun e w' => e = .returned (.bool r) ∧ Drawn0 w w' := by
  have H : (if a0 ≥ a1 then (some (decide (a0 ≤ a2))) else (some false)) = some r := h
  clear h
  by_cases c4 : a0 ≥ a1
  · rw [if_pos c4] at H
    have c4b0 : decide (a1 ≤ a0) = true := decide_eq_true c4
    clear c4
    obtain rfl := Option.some.inj H
    go_enter Tryd.func28, Tryd.ntmps28
    go_wp2
    go_ret
    exact ⟨by first | rfl | (simp; done) | (simp [*]; done), by repeat (first | exact Drawn0.refl _ | apply Drawn0.step)⟩
  · rw [if_neg c4] at H
    have c4b0 : decide (a1 ≤ a0) = false := decide_eq_false c4
    clear c4
    obtain rfl := Option.some.inj H
    go_enter Tryd.func28, Tryd.ntmps28
    go_wp2
    go_ret
    exact ⟨by first | rfl | (simp; done) | (simp [*]; done), by repeat (first | exact Drawn0.refl _ | apply Drawn0.step)⟩
end Go.Proofs.YtnalfnoebhmijaaDoor.Pr
namespace Go.Proofs.YtnalfnoebhmijaaDoor.Pr
open Go.RowKit Go.Proofs.YtnalfnoebhmijaaDoorW.PrintWords Go.Proofs.YtnalfnoebhmijaaDoorW.PrintLast Go.Proofs.YtnalfnoebhmijaaDoorW.PrintMore
attribute [local go_sem] max2_int min2_int max_two min_two max_three min_three max_four min_four
set_option linter.unusedVariables false
set_option linter.unusedSimpArgs false
def tblColV (x : S53) : Value := .agg #[.int .i64 x.f0, .int .i64 x.f1]
set_option maxHeartbeats 4000000 in
theorem idxTblCol_calls (p : S53 → Bool) (g : Nat) (fst lb : Array Value) (eg : ∀ args w, (callFunc g args).run Tryd.prog w = .ok (.enter g args) w) (A : Option Addr) (c : Nat) (l : List S53) (w : World) (hr : Kd.C k53 w A l.length l) (hc : l.length ≤ c)
    (hp : ∀ (W : World) (x : S53), x ∈ l → Below w.heap.size w W → Calls Tryd.prog g (fst.push (tblColV x) ++ lb) W fun e w' => e = .returned (.bool (p x)) ∧ Below W.heap.size W w') :
    Calls Tryd.prog 53 #[.slice A l.length c, .func (.func g) fst lb] w fun e w' => e = .returned (.int .i64 (idxOf p l)) ∧ Below w.heap.size w w' := by
  have HR := Aside0.mk hr
  have HP := Aside0.mk hp
  have hm := Kd.C_max hr
  clear hr hp
  go_enter Tryd.func53, Tryd.ntmps53
  go_wp2
  go_loopg [5, 8] l.length (fun gk v5 v8 wr => ∃ k : Nat, k ≤ l.length ∧ l.length - k ≤ gk ∧ v8 = .int .i64 k ∧ Aside0 (Below w.heap.size w wr) ∧ Aside0 (∀ j x, j < k → l[j]? = some x → p x = false))
  case atStart => exact ⟨0, Nat.zero_le _, by omega, rfl, ⟨Below.refl _ w⟩, ⟨fun j x hj => absurd hj (Nat.not_lt_zero _)⟩⟩
  case round =>
    obtain ⟨k, hk, hg, rfl, BW, HN⟩ := hrel
    by_cases hlt : k < l.length
    · have hltz : (k : Int) < (l.length : Int) := by omega
      obtain ⟨ad, eA, hx0, hx1⟩ := at_T53 HR.out (k : Int) (by omega) hltz
      cases eA
      replace hx0 := (BW.out.cell (World.block_lt_of_cell? w _ hx0)).trans hx0
      replace hx1 := (BW.out.cell (World.block_lt_of_cell? w _ hx1)).trans hx1
      rw [Int.toNat_natCast] at hx0 hx1
      have hmem := getD_at l k z53 hlt
      have hrd : rd_T53 l (k : Int) = l.getD (k : Int).toNat z53 := rfl
      rw [← hrd] at hmem
      have hcall := HP.out wr (rd_T53 l k) (List.mem_of_getElem? hmem) BW.out
      unfold tblColV at hcall
      have HM := Aside0.mk hmem
      clear hmem hrd
      cases hq : p (rd_T53 l k) with
      | true =>
        rw [hq] at hcall
        have HQ := Aside0.mk hq
        clear hq
        go_wp2_with ((with_reducible refine hcall.mono ?_); rintro e w' ⟨rfl, hb'⟩)
        go_ret
        exact ⟨by rw [idxOf_hit p l k _ HM.out HQ.out HN.out]; rfl, below_then BW.out BW.out.size hb'⟩
      | false =>
        rw [hq] at hcall
        have HQ := Aside0.mk hq
        clear hq
        go_wp2_with ((with_reducible refine hcall.mono ?_); rintro e w' ⟨rfl, hb'⟩)
        go_roundg (l.length - (k + 1))
        case measure => omega
        case rel =>
          refine ⟨k + 1, by omega, by omega, by go_num, ⟨below_then BW.out BW.out.size hb'⟩, ⟨fun j y hj hy => ?_⟩⟩
          by_cases e : j = k
          · subst e
            rw [HM.out] at hy; cases hy; exact HQ.out
          · exact HN.out j y (by omega) hy
    · have hltz : ¬ (k : Int) < (l.length : Int) := by omega
      have : k = l.length := by omega
      subst this
      go_wp2
      go_ret
      exact ⟨by rw [idxOf_miss p l HN.out]; rfl, BW.out⟩
end Go.Proofs.YtnalfnoebhmijaaDoor.Pr
namespace Go.Proofs.YtnalfnoebhmijaaDoor.Pr
open Go.RowKit Go.Proofs.YtnalfnoebhmijaaDoorW.PrintWords Go.Proofs.YtnalfnoebhmijaaDoorW.PrintLast Go.Proofs.YtnalfnoebhmijaaDoorW.PrintMore
attribute [local go_sem] max2_int min2_int max_two min_two max_three min_three max_four min_four
set_option linter.unusedVariables false
set_option linter.unusedSimpArgs false
set_option maxHeartbeats 2000000 in
theorem contTblCol_calls (p : S53 → Bool) (g : Nat) (fst lb : Array Value) (eg : ∀ args w, (callFunc g args).run Tryd.prog w = .ok (.enter g args) w) (A : Option Addr) (c : Nat) (l : List S53) (w : World) (hr : Kd.C k53 w A l.length l) (hc : l.length ≤ c)
    (hp : ∀ (W : World) (x : S53), x ∈ l → Below w.heap.size w W → Calls Tryd.prog g (fst.push (tblColV x) ++ lb) W fun e w' => e = .returned (.bool (p x)) ∧ Below W.heap.size W w') :
    Calls Tryd.prog 29 #[.slice A l.length c, .func (.func g) fst lb] w fun e w' => e = .returned (.bool (l.any p)) ∧ Below w.heap.size w w' := by
  have hcall := fun W (hb : W = w) => idxTblCol_calls p g fst lb eg A c l W (hb ▸ hr) hc (hb ▸ hp)
  have HC := Aside0.mk hcall
  clear hcall hr hp hc
  have hi := idxOf_range p l
  have hd : decide (0 ≤ idxOf p l) = l.any p := by
    cases h : l.any p
    · apply decide_eq_false; intro q; have := hi.2.2.mp q; rw [h] at this; cases this
    · exact decide_eq_true (hi.2.2.mpr h)
  have HD := Aside0.mk hd
  clear hd hi
  go_enter Tryd.func29, Tryd.ntmps29
  go_wp2_with (go_at_call 53; refine (HC.out _ rfl).mono ?_; rintro e w' ⟨rfl, hb'⟩)
  go_ret
  exact ⟨by rw [← HD.out]; rfl, hb'⟩
end Go.Proofs.YtnalfnoebhmijaaDoor.Pr
namespace Go.Proofs.YtnalfnoebhmijaaDoor.Pr
open Go.RowKit Go.Proofs.YtnalfnoebhmijaaDoorW.PrintWords Go.Proofs.YtnalfnoebhmijaaDoorW.PrintLast Go.Proofs.YtnalfnoebhmijaaDoorW.PrintMore
attribute [local go_sem] max2_int min2_int max_two min_two max_three min_three max_four min_four
set_option linter.unusedVariables false
set_option linter.unusedSimpArgs false
def impl_TblCol_ok.f (a0_0 : Int) (a0_1 : Int) : Option (Bool) := if a0_0 = 0 then (some (a0_1 == 0)) else (if a0_0 = 1 then ((impl_in.f a0_1 0 60).bind fun t377 => (some t377)) else (if a0_0 = 2 then ((impl_in.f a0_1 1 100).bind fun t378 => (some t378)) else (some false)))
set_option maxHeartbeats 8000000 in
set_option maxRecDepth 100000 in
theorem impl_TblCol_ok.calls (a0_0 : Int) (a0_1 : Int) (r : Bool) (w : World) (h : impl_TblCol_ok.f a0_0 a0_1 = some r) :
  Calls Tryd.prog 31 #[.agg #[.int .i64 a0_0, .int .i64 a0_1]] w fun e w' => e = .returned (.bool r) ∧ Below w.heap.size w w' := by
 have hu53 := Tryd.underlying53;have HB := Aside0.mk (Below.refl w.heap.size w);have H := h;unfold impl_TblCol_ok.f at H;clear h;by_cases c2 : a0_0 = 0;(·rw [if_pos c2] at H;have ai : (a0_0 == 0) = true := beq_iff_eq.mpr c2;have af : (a0_0 != 0) = false := bne_eq_false_iff_eq.mpr c2;clear c2;obtain rfl := Option.some.inj H;go_enter Tryd.func31, Tryd.ntmps31;(go_wp2_with (first | ((with_reducible refine gate_dst (N := 1) rfl ?_); refine bx_ 1 #[.int .i64 a0_0, .int .i64 a0_1] 53 ?_; intro ac hg w3 hbox hb; have n0_ := Aside0.mk (below_step (bl_ HB.out) hb); have n1_ := Aside0.mk (hbox); have n2_ := Aside0.mk ((sz_ (below_size (bl_ HB.out)) hg : w.heap.size ≤ ac)); have n3_ := Aside0.mk n2_.out; replace HB := n0_; have aa := n1_; have ad := n2_; have ab := n3_; clear n0_ n1_ n2_ n3_; clear hb hbox hg; have av := c2_ aa.out)));go_ret;exact ⟨by first | rfl | (simp [errW_none, errW_some] <;> rfl) | (simp [*, errW_none, errW_some] <;> rfl), bl_ HB.out⟩)
 rw [if_neg c2] at H;have ai : (a0_0 == 0) = false := beq_eq_false_iff_ne.mpr c2;have af : (a0_0 != 0) = true := bne_iff_ne.mpr c2;by_cases c5 : a0_0 = 1;(·rw [if_pos c5] at H;have ak : (a0_0 == 1) = true := beq_iff_eq.mpr c5;have ah : (a0_0 != 1) = false := bne_eq_false_iff_eq.mpr c5;clear c5;obtain ⟨t377, A6, H⟩ := ob_ H;(try dsimp only at H);obtain rfl := Option.some.inj H;go_enter Tryd.func31, Tryd.ntmps31;(go_wp2_with (first | ((with_reducible refine gate_dst (N := 1) rfl ?_); refine bx_ 1 #[.int .i64 a0_0, .int .i64 a0_1] 53 ?_; intro ac hg w7 hbox hb; have n0_ := Aside0.mk (below_step (bl_ HB.out) hb); have n1_ := Aside0.mk (hbox); have n2_ := Aside0.mk ((sz_ (below_size (bl_ HB.out)) hg : w.heap.size ≤ ac)); have n3_ := Aside0.mk n2_.out; replace HB := n0_; have aa := n1_; have ad := n2_; have ab := n3_; clear n0_ n1_ n2_ n3_; clear hb hbox hg; have aB := c2_ aa.out) | ((with_reducible refine gate_callee (f := 28) rfl ?_); refine gl_ (some 14) Tryd.func28 #[.int .i64 a0_1, .int .i64 0, .int .i64 60] ?_; (with_reducible refine (impl_in.calls a0_1 0 60 t377 _ A6.out).mono ?_); rintro e w' ⟨rfl, ⟨nd, rfl⟩⟩; refine ⟨_, rfl, ?_⟩)));go_ret;exact ⟨by first | rfl | (simp [errW_none, errW_some] <;> rfl) | (simp [*, errW_none, errW_some] <;> rfl), bl_ HB.out⟩)
 rw [if_neg c5] at H;have ak : (a0_0 == 1) = false := beq_eq_false_iff_ne.mpr c5;have ah : (a0_0 != 1) = true := bne_iff_ne.mpr c5;by_cases c9 : a0_0 = 2;(·rw [if_pos c9] at H;have aj : (a0_0 == 2) = true := beq_iff_eq.mpr c9;have ag : (a0_0 != 2) = false := bne_eq_false_iff_eq.mpr c9;clear c9;obtain ⟨t378, A10, H⟩ := ob_ H;(try dsimp only at H);obtain rfl := Option.some.inj H;go_enter Tryd.func31, Tryd.ntmps31;(go_wp2_with (first | ((with_reducible refine gate_dst (N := 1) rfl ?_); refine bx_ 1 #[.int .i64 a0_0, .int .i64 a0_1] 53 ?_; intro ac hg w11 hbox hb; have n0_ := Aside0.mk (below_step (bl_ HB.out) hb); have n1_ := Aside0.mk (hbox); have n2_ := Aside0.mk ((sz_ (below_size (bl_ HB.out)) hg : w.heap.size ≤ ac)); have n3_ := Aside0.mk n2_.out; replace HB := n0_; have aa := n1_; have ad := n2_; have ab := n3_; clear n0_ n1_ n2_ n3_; clear hb hbox hg; have ao := c2_ aa.out) | ((with_reducible refine gate_callee (f := 28) rfl ?_); refine gl_ (some 19) Tryd.func28 #[.int .i64 a0_1, .int .i64 1, .int .i64 100] ?_; (with_reducible refine (impl_in.calls a0_1 1 100 t378 _ A10.out).mono ?_); rintro e w' ⟨rfl, ⟨nd, rfl⟩⟩; refine ⟨_, rfl, ?_⟩)));go_ret;exact ⟨by first | rfl | (simp [errW_none, errW_some] <;> rfl) | (simp [*, errW_none, errW_some] <;> rfl), bl_ HB.out⟩)
 rw [if_neg c9] at H;have aj : (a0_0 == 2) = false := beq_eq_false_iff_ne.mpr c9;have ag : (a0_0 != 2) = true := bne_iff_ne.mpr c9;obtain rfl := Option.some.inj H;go_enter Tryd.func31, Tryd.ntmps31;(go_wp2_with (first | ((with_reducible refine gate_dst (N := 1) rfl ?_); refine bx_ 1 #[.int .i64 a0_0, .int .i64 a0_1] 53 ?_; intro ac hg w13 hbox hb; have n0_ := Aside0.mk (below_step (bl_ HB.out) hb); have n1_ := Aside0.mk (hbox); have n2_ := Aside0.mk ((sz_ (below_size (bl_ HB.out)) hg : w.heap.size ≤ ac)); have n3_ := Aside0.mk n2_.out; replace HB := n0_; have aa := n1_; have ad := n2_; have ab := n3_; clear n0_ n1_ n2_ n3_; clear hb hbox hg; have ap := c2_ aa.out)));go_ret;exact ⟨by first | rfl | (simp [errW_none, errW_some] <;> rfl) | (simp [*, errW_none, errW_some] <;> rfl), bl_ HB.out⟩
end Go.Proofs.YtnalfnoebhmijaaDoor.Pr
namespace Go.Proofs.YtnalfnoebhmijaaDoor.Pr
open Go.RowKit Go.Proofs.YtnalfnoebhmijaaDoorW.PrintWords Go.Proofs.YtnalfnoebhmijaaDoorW.PrintLast Go.Proofs.YtnalfnoebhmijaaDoorW.PrintMore
attribute [local go_sem] max2_int min2_int max_two min_two max_three min_three max_four min_four
set_option linter.unusedVariables false
set_option linter.unusedSimpArgs false
def impl_TblOk_1.f (a0_0 : Int) (a0_1 : Int) : Option (Bool) := (impl_TblCol_ok.f a0_0 a0_1).bind fun t380 => (some (!t380))
set_option maxHeartbeats 8000000 in
set_option maxRecDepth 100000 in
theorem impl_TblOk_1.calls (a0_0 : Int) (a0_1 : Int) (r : Bool) (w : World) (h : impl_TblOk_1.f a0_0 a0_1 = some r) :
    Calls Tryd.prog 30 #[.agg #[.int .i64 a0_0, .int .i64 a0_1]] w fun e w' => e = .returned (.bool r) ∧ Below w.heap.size w w' := by
  have hu53 := Tryd.underlying53
  have HB := Aside0.mk (Below.refl w.heap.size w)
  have H : ((impl_TblCol_ok.f a0_0 a0_1).bind fun t380 => (some (!t380))) = some r := h
  clear h
  replace H := Option.bind_eq_some_iff.mp H
  obtain ⟨t380, A20, H⟩ := H
  replace H : (some (!t380)) = some r := H
  have A2 := Aside0.mk A20
  clear A20
  obtain rfl := Option.some.inj H
  go_enter Tryd.func30, Tryd.ntmps30
  go_wp2_with (first | ((with_reducible refine gate_dst (N := 1) rfl ?_); refine box_event ?hg (N := 1) ?hd (cs := #[.int .i64 a0_0, .int .i64 a0_1]) (t := 53) ?hr ?_; (case hd => rfl); (case hg => rfl); (case hr => first | (go_simp; done) | (go_simp; rfl)); intro gb379 hg w3 hbox hb; have n0_ := Aside0.mk (below_step (by repeat (first | (with_reducible first | exact HB.out | apply below_alloc | apply pw_below_drewN | apply below_drew1) | exact HB.out)) hb); have n1_ := Aside0.mk (hbox); have n2_ := Aside0.mk ((by rw [hg]; exact (below_size (by repeat (first | (with_reducible first | exact HB.out | apply below_alloc | apply pw_below_drewN | apply below_drew1) | exact HB.out))) : w.heap.size ≤ gb379)); have n3_ := Aside0.mk ((by rw [hg]; exact (below_size (by repeat (first | (with_reducible first | exact HB.out | apply below_alloc | apply pw_below_drewN | apply below_drew1) | exact HB.out))) : w.heap.size ≤ gb379)); clear HB; have HB := n0_; have BK379 := n1_; have GW379 := n2_; have GE379 := n3_; clear n0_ n1_ n2_ n3_; clear hb hbox hg; have hcz4_0 : w3.cell? ⟨gb379, 0, none⟩ = some (.int .i64 a0_0) := (blk_cell BK379.out 0).trans rfl; have hcz4_1 : w3.cell? ⟨gb379, 1, none⟩ = some (.int .i64 a0_1) := (blk_cell BK379.out 1).trans rfl; have hfz4_0 := blk_frozen BK379.out 0; have hfz4_1 := blk_frozen BK379.out 1) | ((with_reducible refine gate_callee (f := 31) rfl ?_); refine goesL_ (some 4) rfl rfl Tryd.func31 (by kernel_rfl) rfl #[.agg #[.int .i64 a0_0, .int .i64 a0_1]] rfl (by (try simp only [List.map_toArray, List.map_cons, List.map_nil]); first | done | rfl | (simp only [List.length_drop, List.length_take]; rfl)) ?_; (with_reducible refine (impl_TblCol_ok.calls a0_0 a0_1 t380 _ A2.out).mono ?_); rintro e w5 ⟨rfl, hb⟩; refine ⟨_, rfl, ?_⟩; have n0_ := Aside0.mk (blk_below (g := gb379) (o := .cells #[.int .i64 a0_0, .int .i64 a0_1] 53 (0, 0)) (by (with_reducible repeat (first | refine blk_drewN ?_ _ | refine blk_drew ?_ | refine blk_alloc ?_ _)); exact BK379.out) hb); have n1_ := Aside0.mk (below_step (by repeat (first | (with_reducible first | exact HB.out | apply below_alloc | apply pw_below_drewN | apply below_drew1 | refine below_set ?_ GE379.out) | exact HB.out)) hb); clear BK379; clear HB; have BK379 := n0_; have HB := n1_; clear n0_ n1_; (try clear hb); (try clear hb2); (try clear hk); (try clear hi)))
  go_ret
  exact ⟨by first | rfl | (simp [errW_none, errW_some] <;> rfl) | (simp [*, errW_none, errW_some] <;> rfl), by repeat (first | (with_reducible first | exact HB.out | apply below_alloc | apply pw_below_drewN | apply below_drew1 | refine below_set ?_ GE379.out) | exact HB.out)⟩
end Go.Proofs.YtnalfnoebhmijaaDoor.Pr
namespace Go.Proofs.YtnalfnoebhmijaaDoor.Pr
open Go.RowKit Go.Proofs.YtnalfnoebhmijaaDoorW.PrintWords Go.Proofs.YtnalfnoebhmijaaDoorW.PrintLast Go.Proofs.YtnalfnoebhmijaaDoorW.PrintMore
attribute [local go_sem] max2_int min2_int max_two min_two max_three min_three max_four min_four
set_option linter.unusedVariables false
set_option linter.unusedSimpArgs false
def impl_BrdLine_drawn.f (a0_0 : Int) (a0_1 : Int) : Option (Bool) := (impl_in.f a0_0 1 3).bind fun t390 => (some t390)
set_option maxHeartbeats 8000000 in
set_option maxRecDepth 100000 in
theorem impl_BrdLine_drawn.calls (a0_0 : Int) (a0_1 : Int) (r : Bool) (w : World) (h : impl_BrdLine_drawn.f a0_0 a0_1 = some r) :
    Calls Tryd.prog 65 #[.agg #[.int .i64 a0_0, .int .i64 a0_1]] w fun e w' => e = .returned (.bool r) ∧ Below w.heap.size w w' := by
  have hu59 := Tryd.underlying59
  have HB := Aside0.mk (Below.refl w.heap.size w)
  have H : ((impl_in.f a0_0 1 3).bind fun t390 => (some t390)) = some r := h
  clear h
  replace H := Option.bind_eq_some_iff.mp H
  obtain ⟨t390, A20, H⟩ := H
  replace H : (some t390) = some r := H
  have A2 := Aside0.mk A20
  clear A20
  obtain rfl := Option.some.inj H
  go_enter Tryd.func65, Tryd.ntmps65
  go_wp2_with (first | ((with_reducible refine gate_dst (N := 1) rfl ?_); refine box_event ?hg (N := 1) ?hd (cs := #[.int .i64 a0_0, .int .i64 a0_1]) (t := 59) ?hr ?_; (case hd => rfl); (case hg => rfl); (case hr => first | (go_simp; done) | (go_simp; rfl)); intro gb389 hg w3 hbox hb; have n0_ := Aside0.mk (below_step (by repeat (first | (with_reducible first | exact HB.out | apply below_alloc | apply pw_below_drewN | apply below_drew1) | exact HB.out)) hb); have n1_ := Aside0.mk (hbox); have n2_ := Aside0.mk ((by rw [hg]; exact (below_size (by repeat (first | (with_reducible first | exact HB.out | apply below_alloc | apply pw_below_drewN | apply below_drew1) | exact HB.out))) : w.heap.size ≤ gb389)); have n3_ := Aside0.mk ((by rw [hg]; exact (below_size (by repeat (first | (with_reducible first | exact HB.out | apply below_alloc | apply pw_below_drewN | apply below_drew1) | exact HB.out))) : w.heap.size ≤ gb389)); clear HB; have HB := n0_; have BK389 := n1_; have GW389 := n2_; have GE389 := n3_; clear n0_ n1_ n2_ n3_; clear hb hbox hg; have hcz4_0 : w3.cell? ⟨gb389, 0, none⟩ = some (.int .i64 a0_0) := (blk_cell BK389.out 0).trans rfl; have hcz4_1 : w3.cell? ⟨gb389, 1, none⟩ = some (.int .i64 a0_1) := (blk_cell BK389.out 1).trans rfl; have hfz4_0 := blk_frozen BK389.out 0; have hfz4_1 := blk_frozen BK389.out 1) | ((with_reducible refine gate_callee (f := 28) rfl ?_); refine goesL_ (some 5) rfl rfl Tryd.func28 (by kernel_rfl) rfl #[.int .i64 a0_0, .int .i64 1, .int .i64 3] rfl (by (try simp only [List.map_toArray, List.map_cons, List.map_nil]); first | done | rfl | (simp only [List.length_drop, List.length_take]; rfl)) ?_; (with_reducible refine (impl_in.calls a0_0 1 3 t390 _ A2.out).mono ?_); rintro e w' ⟨rfl, ⟨nd, rfl⟩⟩; refine ⟨_, rfl, ?_⟩))
  go_ret
  exact ⟨by first | rfl | (simp [errW_none, errW_some] <;> rfl) | (simp [*, errW_none, errW_some] <;> rfl), by repeat (first | (with_reducible first | exact HB.out | apply below_alloc | apply pw_below_drewN | apply below_drew1 | refine below_set ?_ GE389.out) | exact HB.out)⟩
end Go.Proofs.YtnalfnoebhmijaaDoor.Pr
namespace Go.Proofs.YtnalfnoebhmijaaDoor.Pr
open Go.RowKit Go.Proofs.YtnalfnoebhmijaaDoorW.PrintWords Go.Proofs.YtnalfnoebhmijaaDoorW.PrintLast Go.Proofs.YtnalfnoebhmijaaDoorW.PrintMore
attribute [local go_sem] max2_int min2_int max_two min_two max_three min_three max_four min_four
set_option linter.unusedVariables false
set_option linter.unusedSimpArgs false
def impl_BrdOk.f (a0_0 : Int) (a0_1 : Int) : Option (Bool) := (impl_BrdLine_drawn.f a0_0 a0_1).bind fun t392 => (if t392 = true then ((impl_in.f a0_1 1 3).bind fun t393 => (some t393)) else (if a0_0 = 0 then (some (a0_1 == 0)) else (if a0_0 = 4 then (some (a0_1 == 0)) else (some false))))
abbrev qa54 := @Aside0.mk
set_option maxHeartbeats 8000000 in
set_option maxRecDepth 100000 in
theorem impl_BrdOk.calls (a0_0 : Int) (a0_1 : Int) (r : Bool) (w : World) (h : impl_BrdOk.f a0_0 a0_1 = some r) :
  Calls Tryd.prog 54 #[.agg #[.int .i64 a0_0, .int .i64 a0_1]] w fun e w' => e = .returned (.bool r) ∧ Below w.heap.size w w' := by
 have hu59 := Tryd.underlying59;have HB := qa54 (Below.refl w.heap.size w);have H := h;unfold impl_BrdOk.f at H;clear h;obtain ⟨t392, A2, H⟩ := ob_ H;(try dsimp only at H);by_cases c3 : t392 = true
 (·subst c3;(have H1 : ((impl_in.f a0_1 1 3).bind fun t393 => (some t393)) = some r := by rw [if_pos rfl] at H; exact H);clear H;have H := H1;clear H1;obtain ⟨t393, A4, H⟩ := ob_ H;(try dsimp only at H);obtain rfl := Option.some.inj H;go_enter Tryd.func54, Tryd.ntmps54;(go_wp2_with (first | ((with_reducible refine gate_dst (N := 1) rfl ?_); refine bx_ 1 #[.int .i64 a0_0, .int .i64 a0_1] 59 ?_; intro ab hg w5 hbox hb; have n0_ := qa54 (below_step (bl_ HB.out) hb); have n1_ := qa54 (hbox); have n2_ := qa54 ((sz_ (below_size (bl_ HB.out)) hg : w.heap.size ≤ ab)); have n3_ := qa54 n2_.out; replace HB := n0_; have aa := n1_; have ad := n2_; have ac := n3_; clear n0_ n1_ n2_ n3_; clear hb hbox hg; have aL := c2_ aa.out) | ((with_reducible refine gate_callee (f := 65) rfl ?_); refine gl_ (some 4) Tryd.func65 #[.agg #[.int .i64 a0_0, .int .i64 a0_1]] ?_; (with_reducible refine (impl_BrdLine_drawn.calls a0_0 a0_1 true _ A2.out).mono ?_); rintro e w7 ⟨rfl, hb⟩; refine ⟨_, rfl, ?_⟩; have n0_ := qa54 (blk_below (g := ab) (kb_ aa.out) hb); have n1_ := qa54 (below_step (bl_ HB.out) hb); replace aa := n0_; replace HB := n1_; clear n0_ n1_; (try clear hb hk hi); have aO := c2_ aa.out) | ((with_reducible refine gate_callee (f := 28) rfl ?_); refine gl_ (some 7) Tryd.func28 #[.int .i64 a0_1, .int .i64 1, .int .i64 3] ?_; (with_reducible refine (impl_in.calls a0_1 1 3 t393 _ A4.out).mono ?_); rintro e w' ⟨rfl, ⟨nd, rfl⟩⟩; refine ⟨_, rfl, ?_⟩)));go_ret;exact ⟨by first | rfl | (simp [errW_none, errW_some] <;> rfl) | (simp [*, errW_none, errW_some] <;> rfl), bl_ HB.out⟩)
 replace c3 := Bool.eq_false_iff.mpr c3;subst c3;(have H1 : (if a0_0 = 0 then (some (a0_1 == 0)) else (if a0_0 = 4 then (some (a0_1 == 0)) else (some false))) = some r := by rw [if_neg (show ¬ (false = true) by decide)] at H; exact H);clear H;have H := H1;clear H1;by_cases c9 : a0_0 = 0;(·rw [if_pos c9] at H;have ah : (a0_0 == 0) = true := beq_iff_eq.mpr c9;have ag : (a0_0 != 0) = false := bne_eq_false_iff_eq.mpr c9;clear c9;obtain rfl := Option.some.inj H;go_enter Tryd.func54, Tryd.ntmps54;(go_wp2_with (first | ((with_reducible refine gate_dst (N := 1) rfl ?_); refine bx_ 1 #[.int .i64 a0_0, .int .i64 a0_1] 59 ?_; intro ab hg w10 hbox hb; have n0_ := qa54 (below_step (bl_ HB.out) hb); have n1_ := qa54 (hbox); have n2_ := qa54 ((sz_ (below_size (bl_ HB.out)) hg : w.heap.size ≤ ab)); have n3_ := qa54 n2_.out; replace HB := n0_; have aa := n1_; have ad := n2_; have ac := n3_; clear n0_ n1_ n2_ n3_; clear hb hbox hg; have ap := c2_ aa.out) | ((with_reducible refine gate_callee (f := 65) rfl ?_); refine gl_ (some 4) Tryd.func65 #[.agg #[.int .i64 a0_0, .int .i64 a0_1]] ?_; (with_reducible refine (impl_BrdLine_drawn.calls a0_0 a0_1 false _ A2.out).mono ?_); rintro e w12 ⟨rfl, hb⟩; refine ⟨_, rfl, ?_⟩; have n0_ := qa54 (blk_below (g := ab) (kb_ aa.out) hb); have n1_ := qa54 (below_step (bl_ HB.out) hb); replace aa := n0_; replace HB := n1_; clear n0_ n1_; (try clear hb hk hi); have ay := c2_ aa.out)));go_ret;exact ⟨by first | rfl | (simp [errW_none, errW_some] <;> rfl) | (simp [*, errW_none, errW_some] <;> rfl), bl_ HB.out⟩)
 rw [if_neg c9] at H;have ah : (a0_0 == 0) = false := beq_eq_false_iff_ne.mpr c9;have ag : (a0_0 != 0) = true := bne_iff_ne.mpr c9;by_cases c14 : a0_0 = 4;(·rw [if_pos c14] at H;have af : (a0_0 == 4) = true := beq_iff_eq.mpr c14;have ae : (a0_0 != 4) = false := bne_eq_false_iff_eq.mpr c14;clear c14;obtain rfl := Option.some.inj H;go_enter Tryd.func54, Tryd.ntmps54;(go_wp2_with (first | ((with_reducible refine gate_dst (N := 1) rfl ?_); refine bx_ 1 #[.int .i64 a0_0, .int .i64 a0_1] 59 ?_; intro ab hg w15 hbox hb; have n0_ := qa54 (below_step (bl_ HB.out) hb); have n1_ := qa54 (hbox); have n2_ := qa54 ((sz_ (below_size (bl_ HB.out)) hg : w.heap.size ≤ ab)); have n3_ := qa54 n2_.out; replace HB := n0_; have aa := n1_; have ad := n2_; have ac := n3_; clear n0_ n1_ n2_ n3_; clear hb hbox hg; have aD := c2_ aa.out) | ((with_reducible refine gate_callee (f := 65) rfl ?_); refine gl_ (some 4) Tryd.func65 #[.agg #[.int .i64 a0_0, .int .i64 a0_1]] ?_; (with_reducible refine (impl_BrdLine_drawn.calls a0_0 a0_1 false _ A2.out).mono ?_); rintro e w17 ⟨rfl, hb⟩; refine ⟨_, rfl, ?_⟩; have n0_ := qa54 (blk_below (g := ab) (kb_ aa.out) hb); have n1_ := qa54 (below_step (bl_ HB.out) hb); replace aa := n0_; replace HB := n1_; clear n0_ n1_; (try clear hb hk hi); have al := c2_ aa.out)));go_ret;exact ⟨by first | rfl | (simp [errW_none, errW_some] <;> rfl) | (simp [*, errW_none, errW_some] <;> rfl), bl_ HB.out⟩)
 rw [if_neg c14] at H;have af : (a0_0 == 4) = false := beq_eq_false_iff_ne.mpr c14;have ae : (a0_0 != 4) = true := bne_iff_ne.mpr c14;obtain rfl := Option.some.inj H;go_enter Tryd.func54, Tryd.ntmps54;(go_wp2_with (first | ((with_reducible refine gate_dst (N := 1) rfl ?_); refine bx_ 1 #[.int .i64 a0_0, .int .i64 a0_1] 59 ?_; intro ab hg w19 hbox hb; have n0_ := qa54 (below_step (bl_ HB.out) hb); have n1_ := qa54 (hbox); have n2_ := qa54 ((sz_ (below_size (bl_ HB.out)) hg : w.heap.size ≤ ab)); have n3_ := qa54 n2_.out; replace HB := n0_; have aa := n1_; have ad := n2_; have ac := n3_; clear n0_ n1_ n2_ n3_; clear hb hbox hg; have aw := c2_ aa.out) | ((with_reducible refine gate_callee (f := 65) rfl ?_); refine gl_ (some 4) Tryd.func65 #[.agg #[.int .i64 a0_0, .int .i64 a0_1]] ?_; (with_reducible refine (impl_BrdLine_drawn.calls a0_0 a0_1 false _ A2.out).mono ?_); rintro e w21 ⟨rfl, hb⟩; refine ⟨_, rfl, ?_⟩; have n0_ := qa54 (blk_below (g := ab) (kb_ aa.out) hb); have n1_ := qa54 (below_step (bl_ HB.out) hb); replace aa := n0_; replace HB := n1_; clear n0_ n1_; (try clear hb hk hi); have av := c2_ aa.out)));go_ret;exact ⟨by first | rfl | (simp [errW_none, errW_some] <;> rfl) | (simp [*, errW_none, errW_some] <;> rfl), bl_ HB.out⟩
end Go.Proofs.YtnalfnoebhmijaaDoor.Pr
namespace Go.Proofs.YtnalfnoebhmijaaDoor.Pr
open Go.RowKit Go.Proofs.YtnalfnoebhmijaaDoorW.PrintWords Go.Proofs.YtnalfnoebhmijaaDoorW.PrintLast Go.Proofs.YtnalfnoebhmijaaDoorW.PrintMore
attribute [local go_sem] max2_int min2_int max_two min_two max_three min_three max_four min_four
set_option linter.unusedVariables false
set_option linter.unusedSimpArgs false
def impl_CellOk.f (k : Nat) (a0_0 : ByteArray) (a0_1 : Int) (a0_2 : Int) (a0_3 : Int) (a0_4 : Int) (a0_5 : Int) (a0_6 : Int) (a0_7 : Int) (a0_8 : Int) (a0_9 : Int) (a0_10 : Int) : Option (Bool) := (impl_TxtOk.f k a0_0).bind fun t395 => (if t395 = true then ((impl_in.f a0_1 1 4).bind fun t396 => (if t396 = true then ((impl_in.f a0_2 1 4).bind fun t397 => (if t397 = true then ((impl_BrdOk.f a0_3 a0_4).bind fun t398 => (if t398 = true then ((impl_BrdOk.f a0_5 a0_6).bind fun t399 => (if t399 = true then ((impl_BrdOk.f a0_7 a0_8).bind fun t400 => (if t400 = true then ((impl_BrdOk.f a0_9 a0_10).bind fun t401 => (some t401)) else (some false))) else (some false))) else (some false))) else (some false))) else (some false))) else (some false))
abbrev qb33 := @Aside0.mk
abbrev qf33 := @below_step
set_option maxHeartbeats 8000000 in
set_option maxRecDepth 100000 in
theorem impl_CellOk.calls (k : Nat) (a0_0 : ByteArray) (a0_1 : Int) (a0_2 : Int) (a0_3 : Int) (a0_4 : Int) (a0_5 : Int) (a0_6 : Int) (a0_7 : Int) (a0_8 : Int) (a0_9 : Int) (a0_10 : Int) (r : Bool) (w : World) (h : impl_CellOk.f k a0_0 a0_1 a0_2 a0_3 a0_4 a0_5 a0_6 a0_7 a0_8 a0_9 a0_10 = some r) :
  Calls Tryd.prog 33 #[.agg #[.string a0_0, .int .i64 a0_1, .int .i64 a0_2, .int .i64 a0_3, .int .i64 a0_4, .int .i64 a0_5, .int .i64 a0_6, .int .i64 a0_7, .int .i64 a0_8, .int .i64 a0_9, .int .i64 a0_10]] w fun e w' => e = .returned (.bool r) ∧ Below w.heap.size w w' := by
 have hu61 := Tryd.underlying61;have hu59 := Tryd.underlying59;have HB := qb33 (Below.refl w.heap.size w);have H := h;unfold impl_CellOk.f at H;clear h;obtain ⟨t395, A2, H⟩ := ob_ H;(try dsimp only at H);by_cases c3 : t395 = true
 ·subst c3;(have H1 : ((impl_in.f a0_1 1 4).bind fun t396 => (if t396 = true then ((impl_in.f a0_2 1 4).bind fun t397 => (if t397 = true then ((impl_BrdOk.f a0_3 a0_4).bind fun t398 => (if t398 = true then ((impl_BrdOk.f a0_5 a0_6).bind fun t399 => (if t399 = true then ((impl_BrdOk.f a0_7 a0_8).bind fun t400 => (if t400 = true then ((impl_BrdOk.f a0_9 a0_10).bind fun t401 => (some t401)) else (some false))) else (some false))) else (some false))) else (some false))) else (some false))) = some r := by rw [if_pos rfl] at H; exact H);clear H;have H := H1;clear H1;obtain ⟨t396, A4, H⟩ := ob_ H;(try dsimp only at H);by_cases c5 : t396 = true
  ·subst c5;(have H1 : ((impl_in.f a0_2 1 4).bind fun t397 => (if t397 = true then ((impl_BrdOk.f a0_3 a0_4).bind fun t398 => (if t398 = true then ((impl_BrdOk.f a0_5 a0_6).bind fun t399 => (if t399 = true then ((impl_BrdOk.f a0_7 a0_8).bind fun t400 => (if t400 = true then ((impl_BrdOk.f a0_9 a0_10).bind fun t401 => (some t401)) else (some false))) else (some false))) else (some false))) else (some false))) = some r := by rw [if_pos rfl] at H; exact H);clear H;have H := H1;clear H1;obtain ⟨t397, A6, H⟩ := ob_ H;(try dsimp only at H);by_cases c7 : t397 = true
   ·subst c7;(have H1 : ((impl_BrdOk.f a0_3 a0_4).bind fun t398 => (if t398 = true then ((impl_BrdOk.f a0_5 a0_6).bind fun t399 => (if t399 = true then ((impl_BrdOk.f a0_7 a0_8).bind fun t400 => (if t400 = true then ((impl_BrdOk.f a0_9 a0_10).bind fun t401 => (some t401)) else (some false))) else (some false))) else (some false))) = some r := by rw [if_pos rfl] at H; exact H);clear H;have H := H1;clear H1;obtain ⟨t398, A8, H⟩ := ob_ H;(try dsimp only at H);by_cases c9 : t398 = true
    ·subst c9;(have H1 : ((impl_BrdOk.f a0_5 a0_6).bind fun t399 => (if t399 = true then ((impl_BrdOk.f a0_7 a0_8).bind fun t400 => (if t400 = true then ((impl_BrdOk.f a0_9 a0_10).bind fun t401 => (some t401)) else (some false))) else (some false))) = some r := by rw [if_pos rfl] at H; exact H);clear H;have H := H1;clear H1;obtain ⟨t399, A10, H⟩ := ob_ H;(try dsimp only at H);by_cases c11 : t399 = true
     ·subst c11;(have H1 : ((impl_BrdOk.f a0_7 a0_8).bind fun t400 => (if t400 = true then ((impl_BrdOk.f a0_9 a0_10).bind fun t401 => (some t401)) else (some false))) = some r := by rw [if_pos rfl] at H; exact H);clear H;have H := H1;clear H1;obtain ⟨t400, A12, H⟩ := ob_ H;(try dsimp only at H);by_cases c13 : t400 = true
      ·subst c13;(have H1 : ((impl_BrdOk.f a0_9 a0_10).bind fun t401 => (some t401)) = some r := by rw [if_pos rfl] at H; exact H);clear H;have H := H1;clear H1;obtain ⟨t401, A14, H⟩ := ob_ H;(try dsimp only at H);obtain rfl := Option.some.inj H;go_enter Tryd.func33, Tryd.ntmps33
       go_wp2_with (first | ((with_reducible refine gate_dst (N := 1) rfl ?_); refine bx_ 1 #[.string a0_0, .int .i64 a0_1, .int .i64 a0_2, .int .i64 a0_3, .int .i64 a0_4, .int .i64 a0_5, .int .i64 a0_6, .int .i64 a0_7, .int .i64 a0_8, .int .i64 a0_9, .int .i64 a0_10] 61 ?_; intro ab hg w15 hbox hb; have n0_ := qb33 (qf33 (bl_ HB.out) hb); have n1_ := qb33 (hbox); have n2_ := qb33 ((sz_ (below_size (bl_ HB.out)) hg : w.heap.size ≤ ab)); have n3_ := qb33 n2_.out; replace HB := n0_; have aa := n1_; have ad := n2_; have ac := n3_; clear n0_ n1_ n2_ n3_; clear hb hbox hg; have d1 := c11_ aa.out) | ((with_reducible refine gate_callee (f := 37) rfl ?_); refine gl_ (some 5) Tryd.func37 #[.string a0_0] ?_; (with_reducible refine (impl_TxtOk.calls k a0_0 true _ A2.out).mono ?_); rintro e w17 ⟨rfl, hb⟩; refine ⟨_, rfl, ?_⟩; have n0_ := qb33 (blk_below (g := ab) (kb_ aa.out) hb); have n1_ := qb33 (qf33 (bl_ HB.out) hb); replace aa := n0_; replace HB := n1_; clear n0_ n1_; (try clear hb hk hi); have bQ := c11_ aa.out) | (go_at_call 28; (with_reducible refine (impl_in.calls a0_1 1 4 true _ A4.out).mono ?_); rintro e w' ⟨rfl, ⟨nd, rfl⟩⟩) | (go_at_call 28; (with_reducible refine (impl_in.calls a0_2 1 4 true _ A6.out).mono ?_); rintro e w' ⟨rfl, ⟨nd, rfl⟩⟩) | (go_at_call 54; (with_reducible refine (impl_BrdOk.calls a0_3 a0_4 true _ A8.out).mono ?_); rintro e w19 ⟨rfl, hb⟩; have n0_ := qb33 (blk_below (g := ab) (kb_ aa.out) hb); have n1_ := qb33 (qf33 (bl_ HB.out) hb); replace aa := n0_; replace HB := n1_; clear n0_ n1_; (try clear hb hk hi); have bp := c11_ aa.out) | (go_at_call 54; (with_reducible refine (impl_BrdOk.calls a0_5 a0_6 true _ A10.out).mono ?_); rintro e w21 ⟨rfl, hb⟩; have n0_ := qb33 (blk_below (g := ab) (kb_ aa.out) hb); have n1_ := qb33 (qf33 (bl_ HB.out) hb); replace aa := n0_; replace HB := n1_; clear n0_ n1_; (try clear hb hk hi); have g2 := c11_ aa.out) | (go_at_call 54; (with_reducible refine (impl_BrdOk.calls a0_7 a0_8 true _ A12.out).mono ?_); rintro e w23 ⟨rfl, hb⟩; have n0_ := qb33 (blk_below (g := ab) (kb_ aa.out) hb); have n1_ := qb33 (qf33 (bl_ HB.out) hb); replace aa := n0_; replace HB := n1_; clear n0_ n1_; (try clear hb hk hi); have ea := c11_ aa.out) | (go_at_call 54; (with_reducible refine (impl_BrdOk.calls a0_9 a0_10 t401 _ A14.out).mono ?_); rintro e w25 ⟨rfl, hb⟩; have n0_ := qb33 (blk_below (g := ab) (kb_ aa.out) hb); have n1_ := qb33 (qf33 (bl_ HB.out) hb); replace aa := n0_; replace HB := n1_; clear n0_ n1_; (try clear hb hk hi)))
       go_ret;exact ⟨rg_, bl_ HB.out⟩
      replace c13 := Bool.eq_false_iff.mpr c13;subst c13;(have H1 : (some false) = some r := by rw [if_neg (show ¬ (false = true) by decide)] at H; exact H);clear H;have H := H1;clear H1;obtain rfl := Option.some.inj H;go_enter Tryd.func33, Tryd.ntmps33
      go_wp2_with (first | ((with_reducible refine gate_dst (N := 1) rfl ?_); refine bx_ 1 #[.string a0_0, .int .i64 a0_1, .int .i64 a0_2, .int .i64 a0_3, .int .i64 a0_4, .int .i64 a0_5, .int .i64 a0_6, .int .i64 a0_7, .int .i64 a0_8, .int .i64 a0_9, .int .i64 a0_10] 61 ?_; intro ab hg w26 hbox hb; have n0_ := qb33 (qf33 (bl_ HB.out) hb); have n1_ := qb33 (hbox); have n2_ := qb33 ((sz_ (below_size (bl_ HB.out)) hg : w.heap.size ≤ ab)); have n3_ := qb33 n2_.out; replace HB := n0_; have aa := n1_; have ad := n2_; have ac := n3_; clear n0_ n1_ n2_ n3_; clear hb hbox hg; have aV := c11_ aa.out) | ((with_reducible refine gate_callee (f := 37) rfl ?_); refine gl_ (some 5) Tryd.func37 #[.string a0_0] ?_; (with_reducible refine (impl_TxtOk.calls k a0_0 true _ A2.out).mono ?_); rintro e w28 ⟨rfl, hb⟩; refine ⟨_, rfl, ?_⟩; have n0_ := qb33 (blk_below (g := ab) (kb_ aa.out) hb); have n1_ := qb33 (qf33 (bl_ HB.out) hb); replace aa := n0_; replace HB := n1_; clear n0_ n1_; (try clear hb hk hi); have bT := c11_ aa.out) | (go_at_call 28; (with_reducible refine (impl_in.calls a0_1 1 4 true _ A4.out).mono ?_); rintro e w' ⟨rfl, ⟨nd, rfl⟩⟩) | (go_at_call 28; (with_reducible refine (impl_in.calls a0_2 1 4 true _ A6.out).mono ?_); rintro e w' ⟨rfl, ⟨nd, rfl⟩⟩) | (go_at_call 54; (with_reducible refine (impl_BrdOk.calls a0_3 a0_4 true _ A8.out).mono ?_); rintro e w30 ⟨rfl, hb⟩; have n0_ := qb33 (blk_below (g := ab) (kb_ aa.out) hb); have n1_ := qb33 (qf33 (bl_ HB.out) hb); replace aa := n0_; replace HB := n1_; clear n0_ n1_; (try clear hb hk hi); have dE := c11_ aa.out) | (go_at_call 54; (with_reducible refine (impl_BrdOk.calls a0_5 a0_6 true _ A10.out).mono ?_); rintro e w32 ⟨rfl, hb⟩; have n0_ := qb33 (blk_below (g := ab) (kb_ aa.out) hb); have n1_ := qb33 (qf33 (bl_ HB.out) hb); replace aa := n0_; replace HB := n1_; clear n0_ n1_; (try clear hb hk hi); have f4 := c11_ aa.out) | (go_at_call 54; (with_reducible refine (impl_BrdOk.calls a0_7 a0_8 false _ A12.out).mono ?_); rintro e w34 ⟨rfl, hb⟩; have n0_ := qb33 (blk_below (g := ab) (kb_ aa.out) hb); have n1_ := qb33 (qf33 (bl_ HB.out) hb); replace aa := n0_; replace HB := n1_; clear n0_ n1_; (try clear hb hk hi)))
      go_ret;exact ⟨rg_, bl_ HB.out⟩
     replace c11 := Bool.eq_false_iff.mpr c11;subst c11;(have H1 : (some false) = some r := by rw [if_neg (show ¬ (false = true) by decide)] at H; exact H);clear H;have H := H1;clear H1;obtain rfl := Option.some.inj H;go_enter Tryd.func33, Tryd.ntmps33
     go_wp2_with (first | ((with_reducible refine gate_dst (N := 1) rfl ?_); refine bx_ 1 #[.string a0_0, .int .i64 a0_1, .int .i64 a0_2, .int .i64 a0_3, .int .i64 a0_4, .int .i64 a0_5, .int .i64 a0_6, .int .i64 a0_7, .int .i64 a0_8, .int .i64 a0_9, .int .i64 a0_10] 61 ?_; intro ab hg w35 hbox hb; have n0_ := qb33 (qf33 (bl_ HB.out) hb); have n1_ := qb33 (hbox); have n2_ := qb33 ((sz_ (below_size (bl_ HB.out)) hg : w.heap.size ≤ ab)); have n3_ := qb33 n2_.out; replace HB := n0_; have aa := n1_; have ad := n2_; have ac := n3_; clear n0_ n1_ n2_ n3_; clear hb hbox hg; have aZ := c11_ aa.out) | ((with_reducible refine gate_callee (f := 37) rfl ?_); refine gl_ (some 5) Tryd.func37 #[.string a0_0] ?_; (with_reducible refine (impl_TxtOk.calls k a0_0 true _ A2.out).mono ?_); rintro e w37 ⟨rfl, hb⟩; refine ⟨_, rfl, ?_⟩; have n0_ := qb33 (blk_below (g := ab) (kb_ aa.out) hb); have n1_ := qb33 (qf33 (bl_ HB.out) hb); replace aa := n0_; replace HB := n1_; clear n0_ n1_; (try clear hb hk hi); have f9 := c11_ aa.out) | (go_at_call 28; (with_reducible refine (impl_in.calls a0_1 1 4 true _ A4.out).mono ?_); rintro e w' ⟨rfl, ⟨nd, rfl⟩⟩) | (go_at_call 28; (with_reducible refine (impl_in.calls a0_2 1 4 true _ A6.out).mono ?_); rintro e w' ⟨rfl, ⟨nd, rfl⟩⟩) | (go_at_call 54; (with_reducible refine (impl_BrdOk.calls a0_3 a0_4 true _ A8.out).mono ?_); rintro e w39 ⟨rfl, hb⟩; have n0_ := qb33 (blk_below (g := ab) (kb_ aa.out) hb); have n1_ := qb33 (qf33 (bl_ HB.out) hb); replace aa := n0_; replace HB := n1_; clear n0_ n1_; (try clear hb hk hi); have dP := c11_ aa.out) | (go_at_call 54; (with_reducible refine (impl_BrdOk.calls a0_5 a0_6 false _ A10.out).mono ?_); rintro e w41 ⟨rfl, hb⟩; have n0_ := qb33 (blk_below (g := ab) (kb_ aa.out) hb); have n1_ := qb33 (qf33 (bl_ HB.out) hb); replace aa := n0_; replace HB := n1_; clear n0_ n1_; (try clear hb hk hi)))
     go_ret;exact ⟨rg_, bl_ HB.out⟩
    replace c9 := Bool.eq_false_iff.mpr c9;subst c9;(have H1 : (some false) = some r := by rw [if_neg (show ¬ (false = true) by decide)] at H; exact H);clear H;have H := H1;clear H1;obtain rfl := Option.some.inj H;go_enter Tryd.func33, Tryd.ntmps33
    go_wp2_with (first | ((with_reducible refine gate_dst (N := 1) rfl ?_); refine bx_ 1 #[.string a0_0, .int .i64 a0_1, .int .i64 a0_2, .int .i64 a0_3, .int .i64 a0_4, .int .i64 a0_5, .int .i64 a0_6, .int .i64 a0_7, .int .i64 a0_8, .int .i64 a0_9, .int .i64 a0_10] 61 ?_; intro ab hg w42 hbox hb; have n0_ := qb33 (qf33 (bl_ HB.out) hb); have n1_ := qb33 (hbox); have n2_ := qb33 ((sz_ (below_size (bl_ HB.out)) hg : w.heap.size ≤ ab)); have n3_ := qb33 n2_.out; replace HB := n0_; have aa := n1_; have ad := n2_; have ac := n3_; clear n0_ n1_ n2_ n3_; clear hb hbox hg; have dY := c11_ aa.out) | ((with_reducible refine gate_callee (f := 37) rfl ?_); refine gl_ (some 5) Tryd.func37 #[.string a0_0] ?_; (with_reducible refine (impl_TxtOk.calls k a0_0 true _ A2.out).mono ?_); rintro e w44 ⟨rfl, hb⟩; refine ⟨_, rfl, ?_⟩; have n0_ := qb33 (blk_below (g := ab) (kb_ aa.out) hb); have n1_ := qb33 (qf33 (bl_ HB.out) hb); replace aa := n0_; replace HB := n1_; clear n0_ n1_; (try clear hb hk hi); have eF := c11_ aa.out) | (go_at_call 28; (with_reducible refine (impl_in.calls a0_1 1 4 true _ A4.out).mono ?_); rintro e w' ⟨rfl, ⟨nd, rfl⟩⟩) | (go_at_call 28; (with_reducible refine (impl_in.calls a0_2 1 4 true _ A6.out).mono ?_); rintro e w' ⟨rfl, ⟨nd, rfl⟩⟩) | (go_at_call 54; (with_reducible refine (impl_BrdOk.calls a0_3 a0_4 false _ A8.out).mono ?_); rintro e w46 ⟨rfl, hb⟩; have n0_ := qb33 (blk_below (g := ab) (kb_ aa.out) hb); have n1_ := qb33 (qf33 (bl_ HB.out) hb); replace aa := n0_; replace HB := n1_; clear n0_ n1_; (try clear hb hk hi)))
    go_ret;exact ⟨rg_, bl_ HB.out⟩
   replace c7 := Bool.eq_false_iff.mpr c7;subst c7;(have H1 : (some false) = some r := by rw [if_neg (show ¬ (false = true) by decide)] at H; exact H);clear H;have H := H1;clear H1;obtain rfl := Option.some.inj H;go_enter Tryd.func33, Tryd.ntmps33
   go_wp2_with (first | ((with_reducible refine gate_dst (N := 1) rfl ?_); refine bx_ 1 #[.string a0_0, .int .i64 a0_1, .int .i64 a0_2, .int .i64 a0_3, .int .i64 a0_4, .int .i64 a0_5, .int .i64 a0_6, .int .i64 a0_7, .int .i64 a0_8, .int .i64 a0_9, .int .i64 a0_10] 61 ?_; intro ab hg w47 hbox hb; have n0_ := qb33 (qf33 (bl_ HB.out) hb); have n1_ := qb33 (hbox); have n2_ := qb33 ((sz_ (below_size (bl_ HB.out)) hg : w.heap.size ≤ ab)); have n3_ := qb33 n2_.out; replace HB := n0_; have aa := n1_; have ad := n2_; have ac := n3_; clear n0_ n1_ n2_ n3_; clear hb hbox hg; have aW := c11_ aa.out) | ((with_reducible refine gate_callee (f := 37) rfl ?_); refine gl_ (some 5) Tryd.func37 #[.string a0_0] ?_; (with_reducible refine (impl_TxtOk.calls k a0_0 true _ A2.out).mono ?_); rintro e w49 ⟨rfl, hb⟩; refine ⟨_, rfl, ?_⟩; have n0_ := qb33 (blk_below (g := ab) (kb_ aa.out) hb); have n1_ := qb33 (qf33 (bl_ HB.out) hb); replace aa := n0_; replace HB := n1_; clear n0_ n1_; (try clear hb hk hi); have bU := c11_ aa.out) | (go_at_call 28; (with_reducible refine (impl_in.calls a0_1 1 4 true _ A4.out).mono ?_); rintro e w' ⟨rfl, ⟨nd, rfl⟩⟩) | (go_at_call 28; (with_reducible refine (impl_in.calls a0_2 1 4 false _ A6.out).mono ?_); rintro e w' ⟨rfl, ⟨nd, rfl⟩⟩))
   go_ret;exact ⟨rg_, bl_ HB.out⟩
  replace c5 := Bool.eq_false_iff.mpr c5;subst c5;(have H1 : (some false) = some r := by rw [if_neg (show ¬ (false = true) by decide)] at H; exact H);clear H;have H := H1;clear H1;obtain rfl := Option.some.inj H;go_enter Tryd.func33, Tryd.ntmps33
  go_wp2_with (first | ((with_reducible refine gate_dst (N := 1) rfl ?_); refine bx_ 1 #[.string a0_0, .int .i64 a0_1, .int .i64 a0_2, .int .i64 a0_3, .int .i64 a0_4, .int .i64 a0_5, .int .i64 a0_6, .int .i64 a0_7, .int .i64 a0_8, .int .i64 a0_9, .int .i64 a0_10] 61 ?_; intro ab hg w51 hbox hb; have n0_ := qb33 (qf33 (bl_ HB.out) hb); have n1_ := qb33 (hbox); have n2_ := qb33 ((sz_ (below_size (bl_ HB.out)) hg : w.heap.size ≤ ab)); have n3_ := qb33 n2_.out; replace HB := n0_; have aa := n1_; have ad := n2_; have ac := n3_; clear n0_ n1_ n2_ n3_; clear hb hbox hg; have g7 := c11_ aa.out) | ((with_reducible refine gate_callee (f := 37) rfl ?_); refine gl_ (some 5) Tryd.func37 #[.string a0_0] ?_; (with_reducible refine (impl_TxtOk.calls k a0_0 true _ A2.out).mono ?_); rintro e w53 ⟨rfl, hb⟩; refine ⟨_, rfl, ?_⟩; have n0_ := qb33 (blk_below (g := ab) (kb_ aa.out) hb); have n1_ := qb33 (qf33 (bl_ HB.out) hb); replace aa := n0_; replace HB := n1_; clear n0_ n1_; (try clear hb hk hi); have cg := c11_ aa.out) | (go_at_call 28; (with_reducible refine (impl_in.calls a0_1 1 4 false _ A4.out).mono ?_); rintro e w' ⟨rfl, ⟨nd, rfl⟩⟩))
  go_ret;exact ⟨rg_, bl_ HB.out⟩
 replace c3 := Bool.eq_false_iff.mpr c3;subst c3;(have H1 : (some false) = some r := by rw [if_neg (show ¬ (false = true) by decide)] at H; exact H);clear H;have H := H1;clear H1;obtain rfl := Option.some.inj H;go_enter Tryd.func33, Tryd.ntmps33;(go_wp2_with (first | ((with_reducible refine gate_dst (N := 1) rfl ?_); refine bx_ 1 #[.string a0_0, .int .i64 a0_1, .int .i64 a0_2, .int .i64 a0_3, .int .i64 a0_4, .int .i64 a0_5, .int .i64 a0_6, .int .i64 a0_7, .int .i64 a0_8, .int .i64 a0_9, .int .i64 a0_10] 61 ?_; intro ab hg w55 hbox hb; have n0_ := qb33 (qf33 (bl_ HB.out) hb); have n1_ := qb33 (hbox); have n2_ := qb33 ((sz_ (below_size (bl_ HB.out)) hg : w.heap.size ≤ ab)); have n3_ := qb33 n2_.out; replace HB := n0_; have aa := n1_; have ad := n2_; have ac := n3_; clear n0_ n1_ n2_ n3_; clear hb hbox hg; have d0 := c11_ aa.out) | ((with_reducible refine gate_callee (f := 37) rfl ?_); refine gl_ (some 5) Tryd.func37 #[.string a0_0] ?_; (with_reducible refine (impl_TxtOk.calls k a0_0 false _ A2.out).mono ?_); rintro e w57 ⟨rfl, hb⟩; refine ⟨_, rfl, ?_⟩; have n0_ := qb33 (blk_below (g := ab) (kb_ aa.out) hb); have n1_ := qb33 (qf33 (bl_ HB.out) hb); replace aa := n0_; replace HB := n1_; clear n0_ n1_; (try clear hb hk hi))));go_ret;exact ⟨rg_, bl_ HB.out⟩
end Go.Proofs.YtnalfnoebhmijaaDoor.Pr
namespace Go.Proofs.YtnalfnoebhmijaaDoor.Pr
open Go.RowKit Go.Proofs.YtnalfnoebhmijaaDoorW.PrintWords Go.Proofs.YtnalfnoebhmijaaDoorW.PrintLast Go.Proofs.YtnalfnoebhmijaaDoorW.PrintMore
attribute [local go_sem] max2_int min2_int max_two min_two max_three min_three max_four min_four
set_option linter.unusedVariables false
set_option linter.unusedSimpArgs false
set_option maxHeartbeats 4000000 in
theorem idxTblRow_calls (p : S56 → Bool) (g : Nat) (fst lb : Array Value) (eg : ∀ args w, (callFunc g args).run Tryd.prog w = .ok (.enter g args) w) (A : Option Addr) (c : Nat) (l : List S56) (w : World) (hr : Kd.C k56 w A l.length l) (hc : l.length ≤ c)
    (hp : ∀ (W : World) (x : S56) (A0 : Option Addr) (c0 : Nat), x ∈ l → Below w.heap.size w W → x.f0.length ≤ c0 → Kd.C k61 W A0 x.f0.length x.f0 → Calls Tryd.prog g (fst.push (.agg #[.slice A0 x.f0.length c0, .bool x.f1]) ++ lb) W fun e w' => e = .returned (.bool (p x)) ∧ Below W.heap.size W w') :
    Calls Tryd.prog 55 #[.slice A l.length c, .func (.func g) fst lb] w fun e w' => e = .returned (.int .i64 (idxOf p l)) ∧ Below w.heap.size w w' := by
  have HR := Aside0.mk hr
  have HP := Aside0.mk hp
  have hm := Kd.C_max hr
  clear hr hp
  go_enter Tryd.func55, Tryd.ntmps55
  go_wp2
  go_loopg [5, 8] l.length (fun gk v5 v8 wr => ∃ k : Nat, k ≤ l.length ∧ l.length - k ≤ gk ∧ v8 = .int .i64 k ∧ Aside0 (Below w.heap.size w wr) ∧ Aside0 (∀ j x, j < k → l[j]? = some x → p x = false))
  case atStart => exact ⟨0, Nat.zero_le _, by omega, rfl, ⟨Below.refl _ w⟩, ⟨fun j x hj => absurd hj (Nat.not_lt_zero _)⟩⟩
  case round =>
    obtain ⟨k, hk, hg, rfl, BW, HN⟩ := hrel
    by_cases hlt : k < l.length
    · have hltz : (k : Int) < (l.length : Int) := by omega
      obtain ⟨ad, A0, c0, eA, hx0, hx1, hl0, hg0⟩ := at_T56 HR.out (k : Int) (by omega) hltz
      cases eA
      replace hx0 := (BW.out.cell (World.block_lt_of_cell? w _ hx0)).trans hx0
      replace hx1 := (BW.out.cell (World.block_lt_of_cell? w _ hx1)).trans hx1
      replace hg0 := Kd.C_below hg0 BW.out
      rw [Int.toNat_natCast] at hx0 hx1
      have hmem := getD_at l k z56 hlt
      have hrd : rd_T56 l (k : Int) = l.getD (k : Int).toNat z56 := rfl
      rw [← hrd] at hmem
      have hcall := HP.out wr (rd_T56 l k) A0 c0 (List.mem_of_getElem? hmem) BW.out hl0 hg0
      clear hg0
      have HM := Aside0.mk hmem
      clear hmem hrd
      cases hq : p (rd_T56 l k) with
      | true =>
        rw [hq] at hcall
        have HQ := Aside0.mk hq
        clear hq
        go_wp2_with ((with_reducible refine hcall.mono ?_); rintro e w' ⟨rfl, hb'⟩)
        go_ret
        exact ⟨by rw [idxOf_hit p l k _ HM.out HQ.out HN.out]; rfl, below_then BW.out BW.out.size hb'⟩
      | false =>
        rw [hq] at hcall
        have HQ := Aside0.mk hq
        clear hq
        go_wp2_with ((with_reducible refine hcall.mono ?_); rintro e w' ⟨rfl, hb'⟩)
        go_roundg (l.length - (k + 1))
        case measure => omega
        case rel =>
          refine ⟨k + 1, by omega, by omega, by go_num, ⟨below_then BW.out BW.out.size hb'⟩, ⟨fun j y hj hy => ?_⟩⟩
          by_cases e : j = k
          · subst e
            rw [HM.out] at hy; cases hy; exact HQ.out
          · exact HN.out j y (by omega) hy
    · have hltz : ¬ (k : Int) < (l.length : Int) := by omega
      have : k = l.length := by omega
      subst this
      go_wp2
      go_ret
      exact ⟨by rw [idxOf_miss p l HN.out]; rfl, BW.out⟩
end Go.Proofs.YtnalfnoebhmijaaDoor.Pr
namespace Go.Proofs.YtnalfnoebhmijaaDoor.Pr
open Go.RowKit Go.Proofs.YtnalfnoebhmijaaDoorW.PrintWords Go.Proofs.YtnalfnoebhmijaaDoorW.PrintLast Go.Proofs.YtnalfnoebhmijaaDoorW.PrintMore
attribute [local go_sem] max2_int min2_int max_two min_two max_three min_three max_four min_four
set_option linter.unusedVariables false
set_option linter.unusedSimpArgs false
set_option maxHeartbeats 2000000 in
theorem contTblRow_calls (p : S56 → Bool) (g : Nat) (fst lb : Array Value) (eg : ∀ args w, (callFunc g args).run Tryd.prog w = .ok (.enter g args) w) (A : Option Addr) (c : Nat) (l : List S56) (w : World) (hr : Kd.C k56 w A l.length l) (hc : l.length ≤ c)
    (hp : ∀ (W : World) (x : S56) (A0 : Option Addr) (c0 : Nat), x ∈ l → Below w.heap.size w W → x.f0.length ≤ c0 → Kd.C k61 W A0 x.f0.length x.f0 → Calls Tryd.prog g (fst.push (.agg #[.slice A0 x.f0.length c0, .bool x.f1]) ++ lb) W fun e w' => e = .returned (.bool (p x)) ∧ Below W.heap.size W w') :
    Calls Tryd.prog 34 #[.slice A l.length c, .func (.func g) fst lb] w fun e w' => e = .returned (.bool (l.any p)) ∧ Below w.heap.size w w' := by
  have hcall := fun W (hb : W = w) => idxTblRow_calls p g fst lb eg A c l W (hb ▸ hr) hc (hb ▸ hp)
  have HC := Aside0.mk hcall
  clear hcall hr hp hc
  have hi := idxOf_range p l
  have hd : decide (0 ≤ idxOf p l) = l.any p := by
    cases h : l.any p
    · apply decide_eq_false; intro q; have := hi.2.2.mp q; rw [h] at this; cases this
    · exact decide_eq_true (hi.2.2.mpr h)
  have HD := Aside0.mk hd
  clear hd hi
  go_enter Tryd.func34, Tryd.ntmps34
  go_wp2_with (go_at_call 55; refine (HC.out _ rfl).mono ?_; rintro e w' ⟨rfl, hb'⟩)
  go_ret
  exact ⟨by rw [← HD.out]; rfl, hb'⟩
end Go.Proofs.YtnalfnoebhmijaaDoor.Pr
namespace Go.Proofs.YtnalfnoebhmijaaDoor.Pr
open Go.RowKit Go.Proofs.YtnalfnoebhmijaaDoorW.PrintWords Go.Proofs.YtnalfnoebhmijaaDoorW.PrintLast Go.Proofs.YtnalfnoebhmijaaDoorW.PrintMore
attribute [local go_sem] max2_int min2_int max_two min_two max_three min_three max_four min_four
set_option linter.unusedVariables false
set_option linter.unusedSimpArgs false
def impl_TblOk_2.f (k : Nat) (a0_0 : ByteArray) (a0_1 : Int) (a0_2 : Int) (a0_3 : Int) (a0_4 : Int) (a0_5 : Int) (a0_6 : Int) (a0_7 : Int) (a0_8 : Int) (a0_9 : Int) (a0_10 : Int) : Option (Bool) := (impl_CellOk.f k a0_0 a0_1 a0_2 a0_3 a0_4 a0_5 a0_6 a0_7 a0_8 a0_9 a0_10).bind fun t403 => (some (!t403))
set_option maxHeartbeats 8000000 in
set_option maxRecDepth 100000 in
theorem impl_TblOk_2.calls (k : Nat) (a0_0 : ByteArray) (a0_1 : Int) (a0_2 : Int) (a0_3 : Int) (a0_4 : Int) (a0_5 : Int) (a0_6 : Int) (a0_7 : Int) (a0_8 : Int) (a0_9 : Int) (a0_10 : Int) (r : Bool) (w : World) (h : impl_TblOk_2.f k a0_0 a0_1 a0_2 a0_3 a0_4 a0_5 a0_6 a0_7 a0_8 a0_9 a0_10 = some r) :
  Calls Tryd.prog 32 #[.agg #[.string a0_0, .int .i64 a0_1, .int .i64 a0_2, .int .i64 a0_3, .int .i64 a0_4, .int .i64 a0_5, .int .i64 a0_6, .int .i64 a0_7, .int .i64 a0_8, .int .i64 a0_9, .int .i64 a0_10]] w fun e w' => e = .returned (.bool r) ∧ Below w.heap.size w w' := by
 have hu61 := Tryd.underlying61;have HB := Aside0.mk (Below.refl w.heap.size w);have H := h;unfold impl_TblOk_2.f at H;clear h;obtain ⟨t403, A2, H⟩ := ob_ H;(try dsimp only at H);obtain rfl := Option.some.inj H;go_enter Tryd.func32, Tryd.ntmps32
 (go_wp2_with (first | ((with_reducible refine gate_dst (N := 1) rfl ?_); refine bx_ 1 #[.string a0_0, .int .i64 a0_1, .int .i64 a0_2, .int .i64 a0_3, .int .i64 a0_4, .int .i64 a0_5, .int .i64 a0_6, .int .i64 a0_7, .int .i64 a0_8, .int .i64 a0_9, .int .i64 a0_10] 61 ?_; intro ab hg w3 hbox hb; have n0_ := Aside0.mk (below_step (bl_ HB.out) hb); have n1_ := Aside0.mk (hbox); have n2_ := Aside0.mk ((sz_ (below_size (bl_ HB.out)) hg : w.heap.size ≤ ab)); have n3_ := Aside0.mk n2_.out; replace HB := n0_; have aa := n1_; have GW402 := n2_; have ac := n3_; clear n0_ n1_ n2_ n3_; clear hb hbox hg; have af := c11_ aa.out) | ((with_reducible refine gate_callee (f := 33) rfl ?_); refine gl_ (some 4) Tryd.func33 #[.agg #[.string a0_0, .int .i64 a0_1, .int .i64 a0_2, .int .i64 a0_3, .int .i64 a0_4, .int .i64 a0_5, .int .i64 a0_6, .int .i64 a0_7, .int .i64 a0_8, .int .i64 a0_9, .int .i64 a0_10]] ?_; (with_reducible refine (impl_CellOk.calls k a0_0 a0_1 a0_2 a0_3 a0_4 a0_5 a0_6 a0_7 a0_8 a0_9 a0_10 t403 _ A2.out).mono ?_); rintro e w5 ⟨rfl, hb⟩; refine ⟨_, rfl, ?_⟩; have n0_ := Aside0.mk (blk_below (g := ab) (kb_ aa.out) hb); have n1_ := Aside0.mk (below_step (bl_ HB.out) hb); replace aa := n0_; replace HB := n1_; clear n0_ n1_; (try clear hb hk hi))));go_ret;exact ⟨by first | rfl | (simp [errW_none, errW_some] <;> rfl) | (simp [*, errW_none, errW_some] <;> rfl), bl_ HB.out⟩
end Go.Proofs.YtnalfnoebhmijaaDoor.Pr
namespace Go.Proofs.YtnalfnoebhmijaaDoor.Pr
open Go.RowKit Go.Proofs.YtnalfnoebhmijaaDoorW.PrintWords Go.Proofs.YtnalfnoebhmijaaDoorW.PrintLast Go.Proofs.YtnalfnoebhmijaaDoorW.PrintMore
attribute [local go_sem] max2_int min2_int max_two min_two max_three min_three max_four min_four
set_option linter.unusedVariables false
set_option linter.unusedSimpArgs false
def tblCellV (x : S61) : Value := .agg #[.string x.f0, .int .i64 x.f1, .int .i64 x.f2, .int .i64 x.f3.f0, .int .i64 x.f3.f1, .int .i64 x.f4.f0, .int .i64 x.f4.f1, .int .i64 x.f5.f0, .int .i64 x.f5.f1, .int .i64 x.f6.f0, .int .i64 x.f6.f1]
set_option maxHeartbeats 4000000 in
theorem idxTblCell_calls (p : S61 → Bool) (g : Nat) (fst lb : Array Value) (eg : ∀ args w, (callFunc g args).run Tryd.prog w = .ok (.enter g args) w) (A : Option Addr) (c : Nat) (l : List S61) (w : World) (hr : Kd.C k61 w A l.length l) (hc : l.length ≤ c)
    (hp : ∀ (W : World) (x : S61), x ∈ l → Below w.heap.size w W → Calls Tryd.prog g (fst.push (tblCellV x) ++ lb) W fun e w' => e = .returned (.bool (p x)) ∧ Below W.heap.size W w') :
    Calls Tryd.prog 56 #[.slice A l.length c, .func (.func g) fst lb] w fun e w' => e = .returned (.int .i64 (idxOf p l)) ∧ Below w.heap.size w w' := by
  have HR := Aside0.mk hr
  have HP := Aside0.mk hp
  have hm := Kd.C_max hr
  clear hr hp
  go_enter Tryd.func56, Tryd.ntmps56
  go_wp2
  go_loopg [5, 8] l.length (fun gk v5 v8 wr => ∃ k : Nat, k ≤ l.length ∧ l.length - k ≤ gk ∧ v8 = .int .i64 k ∧ Aside0 (Below w.heap.size w wr) ∧ Aside0 (∀ j x, j < k → l[j]? = some x → p x = false))
  case atStart => exact ⟨0, Nat.zero_le _, by omega, rfl, ⟨Below.refl _ w⟩, ⟨fun j x hj => absurd hj (Nat.not_lt_zero _)⟩⟩
  case round =>
    obtain ⟨k, hk, hg, rfl, BW, HN⟩ := hrel
    by_cases hlt : k < l.length
    · have hltz : (k : Int) < (l.length : Int) := by omega
      obtain ⟨ad, eA, hx0, hx1, hx2, hx3, hx4, hx5, hx6, hx7, hx8, hx9, hx10⟩ := at_T61 HR.out (k : Int) (by omega) hltz
      cases eA
      replace hx0 := (BW.out.cell (World.block_lt_of_cell? w _ hx0)).trans hx0
      replace hx1 := (BW.out.cell (World.block_lt_of_cell? w _ hx1)).trans hx1
      replace hx2 := (BW.out.cell (World.block_lt_of_cell? w _ hx2)).trans hx2
      replace hx3 := (BW.out.cell (World.block_lt_of_cell? w _ hx3)).trans hx3
      replace hx4 := (BW.out.cell (World.block_lt_of_cell? w _ hx4)).trans hx4
      replace hx5 := (BW.out.cell (World.block_lt_of_cell? w _ hx5)).trans hx5
      replace hx6 := (BW.out.cell (World.block_lt_of_cell? w _ hx6)).trans hx6
      replace hx7 := (BW.out.cell (World.block_lt_of_cell? w _ hx7)).trans hx7
      replace hx8 := (BW.out.cell (World.block_lt_of_cell? w _ hx8)).trans hx8
      replace hx9 := (BW.out.cell (World.block_lt_of_cell? w _ hx9)).trans hx9
      replace hx10 := (BW.out.cell (World.block_lt_of_cell? w _ hx10)).trans hx10
      rw [Int.toNat_natCast] at hx0 hx1 hx2 hx3 hx4 hx5 hx6 hx7 hx8 hx9 hx10
      have hmem := getD_at l k z61 hlt
      have hrd : rd_T61 l (k : Int) = l.getD (k : Int).toNat z61 := rfl
      rw [← hrd] at hmem
      have hcall := HP.out wr (rd_T61 l k) (List.mem_of_getElem? hmem) BW.out
      unfold tblCellV at hcall
      have HM := Aside0.mk hmem
      clear hmem hrd
      cases hq : p (rd_T61 l k) with
      | true =>
        rw [hq] at hcall
        have HQ := Aside0.mk hq
        clear hq
        go_wp2_with ((with_reducible refine hcall.mono ?_); rintro e w' ⟨rfl, hb'⟩)
        go_ret
        exact ⟨by rw [idxOf_hit p l k _ HM.out HQ.out HN.out]; rfl, below_then BW.out BW.out.size hb'⟩
      | false =>
        rw [hq] at hcall
        have HQ := Aside0.mk hq
        clear hq
        go_wp2_with ((with_reducible refine hcall.mono ?_); rintro e w' ⟨rfl, hb'⟩)
        go_roundg (l.length - (k + 1))
        case measure => omega
        case rel =>
          refine ⟨k + 1, by omega, by omega, by go_num, ⟨below_then BW.out BW.out.size hb'⟩, ⟨fun j y hj hy => ?_⟩⟩
          by_cases e : j = k
          · subst e
            rw [HM.out] at hy; cases hy; exact HQ.out
          · exact HN.out j y (by omega) hy
    · have hltz : ¬ (k : Int) < (l.length : Int) := by omega
      have : k = l.length := by omega
      subst this
      go_wp2
      go_ret
      exact ⟨by rw [idxOf_miss p l HN.out]; rfl, BW.out⟩
end Go.Proofs.YtnalfnoebhmijaaDoor.Pr
namespace Go.Proofs.YtnalfnoebhmijaaDoor.Pr
open Go.RowKit Go.Proofs.YtnalfnoebhmijaaDoorW.PrintWords Go.Proofs.YtnalfnoebhmijaaDoorW.PrintLast Go.Proofs.YtnalfnoebhmijaaDoorW.PrintMore
attribute [local go_sem] max2_int min2_int max_two min_two max_three min_three max_four min_four
set_option linter.unusedVariables false
set_option linter.unusedSimpArgs false
set_option maxHeartbeats 2000000 in
theorem contTblCell_calls (p : S61 → Bool) (g : Nat) (fst lb : Array Value) (eg : ∀ args w, (callFunc g args).run Tryd.prog w = .ok (.enter g args) w) (A : Option Addr) (c : Nat) (l : List S61) (w : World) (hr : Kd.C k61 w A l.length l) (hc : l.length ≤ c)
    (hp : ∀ (W : World) (x : S61), x ∈ l → Below w.heap.size w W → Calls Tryd.prog g (fst.push (tblCellV x) ++ lb) W fun e w' => e = .returned (.bool (p x)) ∧ Below W.heap.size W w') :
    Calls Tryd.prog 36 #[.slice A l.length c, .func (.func g) fst lb] w fun e w' => e = .returned (.bool (l.any p)) ∧ Below w.heap.size w w' := by
  have hcall := fun W (hb : W = w) => idxTblCell_calls p g fst lb eg A c l W (hb ▸ hr) hc (hb ▸ hp)
  have HC := Aside0.mk hcall
  clear hcall hr hp hc
  have hi := idxOf_range p l
  have hd : decide (0 ≤ idxOf p l) = l.any p := by
    cases h : l.any p
    · apply decide_eq_false; intro q; have := hi.2.2.mp q; rw [h] at this; cases this
    · exact decide_eq_true (hi.2.2.mpr h)
  have HD := Aside0.mk hd
  clear hd hi
  go_enter Tryd.func36, Tryd.ntmps36
  go_wp2_with (go_at_call 56; refine (HC.out _ rfl).mono ?_; rintro e w' ⟨rfl, hb'⟩)
  go_ret
  exact ⟨by rw [← HD.out]; rfl, hb'⟩
end Go.Proofs.YtnalfnoebhmijaaDoor.Pr
namespace Go.Proofs.YtnalfnoebhmijaaDoor.Pr
open Go.RowKit Go.Proofs.YtnalfnoebhmijaaDoorW.PrintWords Go.Proofs.YtnalfnoebhmijaaDoorW.PrintLast Go.Proofs.YtnalfnoebhmijaaDoorW.PrintMore
attribute [local go_sem] max2_int min2_int max_two min_two max_three min_three max_four min_four
set_option linter.unusedVariables false
set_option linter.unusedSimpArgs false
def cellP (k : Nat) (c : S61) : Option Bool := impl_CellOk.f k (c.f0) (c.f1) (c.f2) (c.f3.f0) (c.f3.f1) (c.f4.f0) (c.f4.f1) (c.f5.f0) (c.f5.f1) (c.f6.f0) (c.f6.f1)
def cellB (k : Nat) (c : S61) : Bool := (cellP k c).getD false
def rowB (k : Nat) (l : List S61) : Bool := decide ((l.length : Int) > 5) || l.any fun c => !(cellB k c)
set_option maxHeartbeats 4000000 in
theorem rowB_calls (k : Nat) (b : Bool) (A0 : Option Addr) (c0 : Nat) (l : List S61) (g : Nat) (w : World) (h1 : w.cell? ⟨g, 0, none⟩ = some (.func (.func 32) #[] #[]))
    (hr : Kd.C k61 w A0 l.length l) (hc : l.length ≤ c0) (hk : ∀ c ∈ l, (cellP k c).isSome = true) :
    Calls Tryd.prog 35 #[.agg #[.slice A0 l.length c0, .bool b], .pointer (some ⟨g, 0, none⟩)] w fun e w' => e = .returned (.bool (rowB k l)) ∧ Below w.heap.size w w' := by
  have l1 : g < w.heap.size := World.block_lt_of_cell? w _ h1
  have n1 : ¬ w.heap.size = g := by omega
  have hcall : ∀ W, Below w.heap.size w W → Calls Tryd.prog 36 #[.slice A0 l.length c0, .func (.func 32) #[] #[]] W fun e w' => e = .returned (.bool (l.any fun c => !(cellB k c))) ∧ Below W.heap.size W w' := fun W hb => by
    refine contTblCell_calls (fun c => !(cellB k c)) 32 #[] #[] (enters_ Tryd.func32 (by kernel_rfl) rfl) A0 c0 l W (Kd.C_below hr hb) hc (fun W' x hx _ => ?_)
    obtain ⟨q, hq⟩ := Option.isSome_iff_exists.mp (hk x hx)
    have e : cellB k x = q := by unfold cellB; rw [hq]; rfl
    rw [e]
    exact impl_TblOk_2.calls k _ _ _ _ _ _ _ _ _ _ _ (!q) W' (by unfold impl_TblOk_2.f; have hq2 := hq; unfold cellP at hq2; rw [hq2]; rfl)
  have HC := Aside0.mk hcall
  have bel : ∀ o, Below w.heap.size w (w.alloc o) := fun o => below_alloc (Below.refl w.heap.size w) o
  have HB := Aside0.mk bel
  clear hcall bel hr hk
  unfold rowB
  by_cases c5 : (l.length : Int) > 5
  · have d5 : decide ((l.length : Int) > 5) = true := decide_eq_true c5
    rw [d5]
    go_enter Tryd.func35, Tryd.ntmps35
    go_wp2
    go_ret
    exact ⟨rfl, HB.out _⟩
  · have d5 : decide ((l.length : Int) > 5) = false := decide_eq_false c5
    rw [d5]
    go_enter Tryd.func35, Tryd.ntmps35
    go_wp2_with (go_at_call 36; refine (HC.out _ (HB.out _)).mono ?_; rintro e w' ⟨rfl, hb'⟩)
    go_ret
    exact ⟨by simp, below_then (HB.out _) (HB.out _).size hb'⟩
end Go.Proofs.YtnalfnoebhmijaaDoor.Pr
namespace Go.Proofs.YtnalfnoebhmijaaDoor.Pr
open Go.RowKit Go.Proofs.YtnalfnoebhmijaaDoorW.PrintWords Go.Proofs.YtnalfnoebhmijaaDoorW.PrintLast Go.Proofs.YtnalfnoebhmijaaDoorW.PrintMore
attribute [local go_sem] max2_int min2_int max_two min_two max_three min_three max_four min_four
set_option linter.unusedVariables false
set_option linter.unusedSimpArgs false
def tin (lo hi n : Int) : Bool := decide (lo ≤ n) && decide (n ≤ hi)
theorem tin_eq (lo hi n : Int) : impl_in.f n lo hi = some (tin lo hi n) := by
  unfold impl_in.f tin
  by_cases h : lo ≤ n
  · rw [if_pos h]; simp [h]
  · rw [if_neg h]; simp [h]
def colB (a b : Int) : Bool := if a = 0 then b == 0 else if a = 1 then tin 0 60 b else if a = 2 then tin 1 100 b else false
theorem colB_eq (a b : Int) : impl_TblCol_ok.f a b = some (colB a b) := by
  unfold impl_TblCol_ok.f colB
  simp only [tin_eq, Option.bind_some]
  split
  · rfl
  · split
    · rfl
    · split <;> rfl
def colsB (l : List S53) : Bool := l.any fun c => !(colB c.f0 c.f1)
def rowsB (k : Nat) (l : List S56) : Bool := l.any fun r => rowB k r.f0
def rowsK (k : Nat) (l : List S56) : Bool := l.all fun r => r.f0.all fun c => (cellP k c).isSome
def impl_TblOk.f (k : Nat) (l0_0 : List S53) (a0_1 a0_2 : Int) (l0_3 : List S56) (a0_4 : Int) : Option Bool :=
  if tin 1 8 (l0_3.length : Int) = true then (if (l0_0.length : Int) > 8 then some false else if tin 0 3 a0_4 = true then
    (if tin 0 (l0_3.length : Int) a0_1 = true then (if tin 0 (wrap64 ((l0_3.length : Int) - a0_1)) a0_2 = true then (if colsB l0_0 = true then some false else if rowsK k l0_3 = true then some (!(rowsB k l0_3)) else none) else some false) else some false) else some false) else some false
theorem any_mem {α : Type} (p q : α → Bool) : ∀ l : List α, (∀ x ∈ l, p x = q x) → l.any p = l.any q
  | [], _ => rfl
  | x :: l, h => by rw [List.any_cons, List.any_cons, h x (by simp), any_mem p q l (fun y hy => h y (by simp [hy]))]
set_option maxHeartbeats 8000000 in
set_option maxRecDepth 100000 in
theorem impl_TblOk.calls (k : Nat) (A0_0 : Option Addr) (c0_0 : Nat) (l0_0 : List S53) (a0_1 a0_2 : Int) (A0_3 : Option Addr) (c0_3 : Nat) (l0_3 : List S56) (a0_4 : Int) (r : Bool) (w : World) (hr0_0 : Kd.C k53 w A0_0 l0_0.length l0_0) (hc0_0 : l0_0.length ≤ c0_0) (hr0_3 : Kd.C k56 w A0_3 l0_3.length l0_3) (hc0_3 : l0_3.length ≤ c0_3) (h : impl_TblOk.f k l0_0 a0_1 a0_2 l0_3 a0_4 = some r) :
    Calls Tryd.prog 9 #[.agg #[.slice A0_0 l0_0.length c0_0, .int .i64 a0_1, .int .i64 a0_2, .slice A0_3 l0_3.length c0_3, .int .i64 a0_4]] w fun e w' => e = .returned (.bool r) ∧ Below w.heap.size w w' := by
  unfold impl_TblOk.f at h
  have bel : ∀ o, Below w.heap.size w (w.alloc o) := fun o => below_alloc (Below.refl w.heap.size w) o
  have HB := Aside0.mk bel
  have hm := Kd.C_max hr0_3
  have i1 := fun W => impl_in.calls (l0_3.length : Int) 1 8 _ W (tin_eq 1 8 (l0_3.length : Int))
  have i3 := fun W => impl_in.calls a0_4 0 3 _ W (tin_eq 0 3 a0_4)
  have i4 := fun W => impl_in.calls a0_1 0 (l0_3.length : Int) _ W (tin_eq 0 (l0_3.length : Int) a0_1)
  have i5 := fun W => impl_in.calls a0_2 0 (wrap64 ((l0_3.length : Int) - a0_1)) _ W (tin_eq 0 (wrap64 ((l0_3.length : Int) - a0_1)) a0_2)
  have hcol : ∀ W, Below w.heap.size w W → Calls Tryd.prog 29 #[.slice A0_0 l0_0.length c0_0, .func (.func 30) #[] #[]] W fun e w' => e = .returned (.bool (colsB l0_0)) ∧ Below W.heap.size W w' := fun W hb => by
    refine contTblCol_calls (fun c => !(colB c.f0 c.f1)) 30 #[] #[] (enters_ Tryd.func30 (by kernel_rfl) rfl) A0_0 c0_0 l0_0 W (Kd.C_below hr0_0 hb) hc0_0 (fun W' x _ _ => ?_)
    exact impl_TblOk_1.calls x.f0 x.f1 _ W' (by unfold impl_TblOk_1.f; rw [colB_eq]; rfl)
  have hrow : rowsK k l0_3 = true → ∀ (W : World) (g : Nat), Below w.heap.size w W → W.cell? ⟨g, 0, none⟩ = some (.func (.func 32) #[] #[]) → Calls Tryd.prog 34 #[.slice A0_3 l0_3.length c0_3, .func (.func 35) #[] #[.pointer (some ⟨g, 0, none⟩)]] W fun e w' => e = .returned (.bool (rowsB k l0_3)) ∧ Below W.heap.size W w' := fun hk W g hb hg => by
    refine contTblRow_calls (fun r => rowB k r.f0) 35 #[] #[.pointer (some ⟨g, 0, none⟩)] (enters_ Tryd.func35 (by kernel_rfl) rfl) A0_3 c0_3 l0_3 W (Kd.C_below hr0_3 hb) hc0_3 (fun W' x A' c' hx hb' hl hC => ?_)
    refine rowB_calls k x.f1 A' c' x.f0 g W' ((hb'.cell (World.block_lt_of_cell? W _ hg)).trans hg) hC hl (fun c hc => ?_)
    unfold rowsK at hk
    exact List.all_eq_true.mp (List.all_eq_true.mp hk x hx) c hc
  clear hr0_0 hr0_3 bel
  generalize tin 1 8 (l0_3.length : Int) = b1 at *
  generalize tin 0 3 a0_4 = b3 at *
  generalize tin 0 (l0_3.length : Int) a0_1 = b4 at *
  generalize tin 0 (wrap64 ((l0_3.length : Int) - a0_1)) a0_2 = b5 at *
  generalize colsB l0_0 = b6 at *
  cases b1 with
  | false =>
    obtain rfl : false = r := by simpa using h
    have I1 := Aside0.mk i1
    clear i1 i3 i4 i5 hcol hrow h
    go_enter Tryd.func9, Tryd.ntmps9
    go_wp2_with ((go_at_call 28; (with_reducible refine (I1.out _).mono ?_); rintro e w' ⟨rfl, ⟨nd, rfl⟩⟩))
    go_ret
    exact ⟨rfl, by repeat (first | exact HB.out _ | apply pw_below_drewN)⟩
  | true =>
  have I1 := Aside0.mk i1
  clear i1
  rw [if_pos rfl] at h
  by_cases c8 : (l0_0.length : Int) > 8
  · rw [if_pos c8] at h
    obtain rfl : false = r := by simpa using h
    have d8 : decide ((l0_0.length : Int) > 8) = true := decide_eq_true c8
    clear i3 i4 i5 hcol hrow h
    go_enter Tryd.func9, Tryd.ntmps9
    go_wp2_with ((go_at_call 28; (with_reducible refine (I1.out _).mono ?_); rintro e w' ⟨rfl, ⟨nd, rfl⟩⟩))
    go_ret
    exact ⟨rfl, by repeat (first | exact HB.out _ | apply pw_below_drewN)⟩
  rw [if_neg c8] at h
  have d8 : decide ((l0_0.length : Int) > 8) = false := decide_eq_false c8
  cases b3 with
  | false =>
    obtain rfl : false = r := by simpa using h
    have I3 := Aside0.mk i3
    clear i3 i4 i5 hcol hrow h
    go_enter Tryd.func9, Tryd.ntmps9
    go_wp2_with (first | (go_at_call 28; (with_reducible refine (I1.out _).mono ?_); rintro e w' ⟨rfl, ⟨nd, rfl⟩⟩) | (go_at_call 28; (with_reducible refine (I3.out _).mono ?_); rintro e w' ⟨rfl, ⟨nd, rfl⟩⟩))
    go_ret
    exact ⟨rfl, by repeat (first | exact HB.out _ | apply pw_below_drewN)⟩
  | true =>
  have I3 := Aside0.mk i3
  clear i3
  rw [if_pos rfl] at h
  cases b4 with
  | false =>
    obtain rfl : false = r := by simpa using h
    have I4 := Aside0.mk i4
    clear i4 i5 hcol hrow h
    go_enter Tryd.func9, Tryd.ntmps9
    go_wp2_with (first | (go_at_call 28; (with_reducible refine (I1.out _).mono ?_); rintro e w' ⟨rfl, ⟨nd, rfl⟩⟩) | (go_at_call 28; (with_reducible refine (I3.out _).mono ?_); rintro e w' ⟨rfl, ⟨nd, rfl⟩⟩) | (go_at_call 28; (with_reducible refine (I4.out _).mono ?_); rintro e w' ⟨rfl, ⟨nd, rfl⟩⟩))
    go_ret
    exact ⟨rfl, by repeat (first | exact HB.out _ | apply pw_below_drewN)⟩
  | true =>
  have I4 := Aside0.mk i4
  clear i4
  rw [if_pos rfl] at h
  cases b5 with
  | false =>
    obtain rfl : false = r := by simpa using h
    have I5 := Aside0.mk i5
    clear i5 hcol hrow h
    go_enter Tryd.func9, Tryd.ntmps9
    go_wp2_with (first | (go_at_call 28; (with_reducible refine (I1.out _).mono ?_); rintro e w' ⟨rfl, ⟨nd, rfl⟩⟩) | (go_at_call 28; (with_reducible refine (I3.out _).mono ?_); rintro e w' ⟨rfl, ⟨nd, rfl⟩⟩) | (go_at_call 28; (with_reducible refine (I4.out _).mono ?_); rintro e w' ⟨rfl, ⟨nd, rfl⟩⟩) | (go_at_call 28; (with_reducible refine (I5.out _).mono ?_); rintro e w' ⟨rfl, ⟨nd, rfl⟩⟩))
    go_ret
    exact ⟨rfl, by repeat (first | exact HB.out _ | apply pw_below_drewN)⟩
  | true =>
  have I5 := Aside0.mk i5
  clear i5
  rw [if_pos rfl] at h
  cases b6 with
  | true =>
    obtain rfl : false = r := by simpa using h
    have IC := Aside0.mk hcol
    clear hcol hrow h
    go_enter Tryd.func9, Tryd.ntmps9
    go_wp2_with (first | (go_at_call 28; (with_reducible refine (I1.out _).mono ?_); rintro e w' ⟨rfl, ⟨nd, rfl⟩⟩) | (go_at_call 28; (with_reducible refine (I3.out _).mono ?_); rintro e w' ⟨rfl, ⟨nd, rfl⟩⟩) | (go_at_call 28; (with_reducible refine (I4.out _).mono ?_); rintro e w' ⟨rfl, ⟨nd, rfl⟩⟩) | (go_at_call 28; (with_reducible refine (I5.out _).mono ?_); rintro e w' ⟨rfl, ⟨nd, rfl⟩⟩) | (go_at_call 29; (with_reducible refine (IC.out _ (by repeat (first | exact HB.out _ | apply pw_below_drewN))).mono ?_); rintro e wc ⟨rfl, hbc⟩; have HBC := Aside0.mk (below_step (by repeat (first | exact HB.out _ | apply pw_below_drewN)) hbc); have HKC := Aside0.mk (blk_below (by (repeat (first | exact blk_new _ _ | refine blk_drewN ?_ _)) : _) hbc); have hz3 : wc.cell? ⟨w.heap.size, 3, none⟩ = some (.slice A0_3 l0_3.length c0_3) := (blk_cell HKC.out 3).trans rfl; have hlw : w.heap.size < wc.heap.size := blk_lt HKC.out; have hnw : ¬ w.heap.size = wc.heap.size := Nat.ne_of_lt hlw; clear hbc))
    go_ret
    exact ⟨rfl, HBC.out⟩
  | false =>
  have IC := Aside0.mk hcol
  clear hcol
  rw [if_neg (by simp)] at h
  by_cases hk : rowsK k l0_3 = true
  case neg => rw [if_neg hk] at h; cases h
  rw [if_pos hk] at h
  obtain rfl := Option.some.inj h
  have IR := Aside0.mk (hrow hk)
  clear hrow h hk
  go_enter Tryd.func9, Tryd.ntmps9
  go_wp2_with (first | (go_at_call 28; (with_reducible refine (I1.out _).mono ?_); rintro e w' ⟨rfl, ⟨nd, rfl⟩⟩) | (go_at_call 28; (with_reducible refine (I3.out _).mono ?_); rintro e w' ⟨rfl, ⟨nd, rfl⟩⟩) | (go_at_call 28; (with_reducible refine (I4.out _).mono ?_); rintro e w' ⟨rfl, ⟨nd, rfl⟩⟩) | (go_at_call 28; (with_reducible refine (I5.out _).mono ?_); rintro e w' ⟨rfl, ⟨nd, rfl⟩⟩) | (go_at_call 29; (with_reducible refine (IC.out _ (by repeat (first | exact HB.out _ | apply pw_below_drewN))).mono ?_); rintro e wc ⟨rfl, hbc⟩; have HBC := Aside0.mk (below_step (by repeat (first | exact HB.out _ | apply pw_below_drewN)) hbc); have HKC := Aside0.mk (blk_below (by (repeat (first | exact blk_new _ _ | refine blk_drewN ?_ _)) : _) hbc); have hz3 : wc.cell? ⟨w.heap.size, 3, none⟩ = some (.slice A0_3 l0_3.length c0_3) := (blk_cell HKC.out 3).trans rfl; have hlw : w.heap.size < wc.heap.size := blk_lt HKC.out; have hnw : ¬ w.heap.size = wc.heap.size := Nat.ne_of_lt hlw; clear hbc) | ((with_reducible refine gate_dst (N := 3) rfl ?_); refine box_event ?hg (N := 3) ?hd (cs := #[.nilFunc]) (t := 57) ?hr ?_; (case hd => rfl); (case hg => rfl); (case hr => first | (go_simp; done) | (go_simp; rfl)); intro gb hgb w4 hbox hb; have hbc : w4.cell? ⟨gb, 0, none⟩ = some .nilFunc := (blk_cell hbox 0).trans rfl; have hbf : w4.frozen? ⟨gb, 0, none⟩ = false := blk_frozen hbox 0; have hlw4 : w.heap.size < gb := (by rw [hgb]; exact hlw); have hz34 : (w4.setCell ⟨gb, 0, none⟩ (.func (.func 32) #[] #[])).cell? ⟨w.heap.size, 3, none⟩ = some (.slice A0_3 l0_3.length c0_3) := (World.cell?_setCell_other _ _ _ _ (by intro h_; have h2_ := congrArg Addr.block h_; dsimp only at h2_; omega)).trans ((hb.cell hlw).trans hz3); have HQ1 := Aside0.mk (below_set (j := 0) (v := .func (.func 32) #[] #[]) (below_step HBC.out hb) (Nat.le_of_lt hlw4)); have HQ2 := Aside0.mk (World.cell?_setCell_same w4 ⟨gb, 0, none⟩ (.func (.func 32) #[] #[]) hbc); clear hgb hbox hb hlw4) | (go_at_call 34; (with_reducible refine (IR.out _ gb HQ1.out HQ2.out).mono ?_); rintro e wd ⟨rfl, hbd⟩; have HBD := Aside0.mk (below_step HQ1.out hbd); clear hbd))
  go_ret
  exact ⟨rfl, HBD.out⟩
end Go.Proofs.YtnalfnoebhmijaaDoor.Pr
namespace Go.Proofs.YtnalfnoebhmijaaDoor.Pr
open Go.RowKit Go.Proofs.YtnalfnoebhmijaaDoorW.PrintWords Go.Proofs.YtnalfnoebhmijaaDoorW.PrintLast Go.Proofs.YtnalfnoebhmijaaDoorW.PrintMore
attribute [local go_sem] max2_int min2_int max_two min_two max_three min_three max_four min_four
set_option linter.unusedVariables false
set_option linter.unusedSimpArgs false
def impl_TblTable_part.f (l0_0 : List (S53)) (a0_1 : Int) (a0_2 : Int) (l0_3 : List (S56)) (a0_4 : Int) (a1 : Int) : Option (Int) := if a1 < a0_1 then (some 0) else (if a1 ≥ (wrap64 ((l0_3.length : Int) - a0_2)) then (some 2) else (some 1))
set_option maxHeartbeats 8000000 in
set_option maxRecDepth 100000 in
theorem impl_TblTable_part.calls (A0_0 : Option Addr) (c0_0 : Nat) (l0_0 : List (S53)) (a0_1 : Int) (a0_2 : Int) (A0_3 : Option Addr) (c0_3 : Nat) (l0_3 : List (S56)) (a0_4 : Int) (a1 : Int) (r : Int) (w : World) (hr0_0 : Kd.C k53 w A0_0 l0_0.length l0_0) (hc0_0 : l0_0.length ≤ c0_0) (hr0_3 : Kd.C k56 w A0_3 l0_3.length l0_3) (hc0_3 : l0_3.length ≤ c0_3) (h : impl_TblTable_part.f l0_0 a0_1 a0_2 l0_3 a0_4 a1 = some r) :
  Calls Tryd.prog 38 #[.agg #[.slice A0_0 l0_0.length c0_0, .int .i64 a0_1, .int .i64 a0_2, .slice A0_3 l0_3.length c0_3, .int .i64 a0_4], .int .i64 a1] w fun e w' => e = .returned (.int .i64 r) ∧ Below w.heap.size w w' := by
 have hu26 := Tryd.underlying26;have HR0_0 := Aside0.mk hr0_0;have HC0_0 := Aside0.mk hc0_0;clear hr0_0 hc0_0;have HR0_3 := Aside0.mk hr0_3;have HC0_3 := Aside0.mk hc0_3;clear hr0_3 hc0_3;have HB := Aside0.mk (Below.refl w.heap.size w);have H := h;unfold impl_TblTable_part.f at H;clear h;by_cases c3 : a1 < a0_1;(·rw [if_pos c3] at H;have ae : decide (a1 < a0_1) = true := decide_eq_true c3;clear c3;obtain rfl := Option.some.inj H;go_enter Tryd.func38, Tryd.ntmps38;(go_wp2_with (first | ((with_reducible refine gate_dst (N := 2) rfl ?_); refine bx_ 2 #[.slice A0_0 l0_0.length c0_0, .int .i64 a0_1, .int .i64 a0_2, .slice A0_3 l0_3.length c0_3, .int .i64 a0_4] 26 ?_; intro ab hg w4 hbox hb; have n0_ := Aside0.mk (below_step (bl_ HB.out) hb); have n1_ := Aside0.mk (hbox); have n2_ := Aside0.mk ((sz_ (below_size (bl_ HB.out)) hg : w.heap.size ≤ ab)); have n3_ := Aside0.mk n2_.out; replace HB := n0_; have aa := n1_; have ad := n2_; have ac := n3_; clear n0_ n1_ n2_ n3_; clear hb hbox hg; have ax := c5_ aa.out)));go_ret;exact ⟨by first | rfl | (simp [errW_none, errW_some] <;> rfl) | (simp [*, errW_none, errW_some] <;> rfl), bl_ HB.out⟩)
 rw [if_neg c3] at H;have ae : decide (a1 < a0_1) = false := decide_eq_false c3;clear c3;by_cases c6 : a1 ≥ (wrap64 ((l0_3.length : Int) - a0_2));(·rw [if_pos c6] at H;have af : decide ((wrap64 ((l0_3.length : Int) - a0_2)) ≤ a1) = true := decide_eq_true c6;clear c6;obtain rfl := Option.some.inj H;go_enter Tryd.func38, Tryd.ntmps38;(go_wp2_with (first | ((with_reducible refine gate_dst (N := 2) rfl ?_); refine bx_ 2 #[.slice A0_0 l0_0.length c0_0, .int .i64 a0_1, .int .i64 a0_2, .slice A0_3 l0_3.length c0_3, .int .i64 a0_4] 26 ?_; intro ab hg w7 hbox hb; have n0_ := Aside0.mk (below_step (bl_ HB.out) hb); have n1_ := Aside0.mk (hbox); have n2_ := Aside0.mk ((sz_ (below_size (bl_ HB.out)) hg : w.heap.size ≤ ab)); have n3_ := Aside0.mk n2_.out; replace HB := n0_; have aa := n1_; have ad := n2_; have ac := n3_; clear n0_ n1_ n2_ n3_; clear hb hbox hg; have aJ := c5_ aa.out)));go_ret;exact ⟨by first | rfl | (simp [errW_none, errW_some] <;> rfl) | (simp [*, errW_none, errW_some] <;> rfl), bl_ HB.out⟩)
 rw [if_neg c6] at H;have af : decide ((wrap64 ((l0_3.length : Int) - a0_2)) ≤ a1) = false := decide_eq_false c6;clear c6;obtain rfl := Option.some.inj H;go_enter Tryd.func38, Tryd.ntmps38;(go_wp2_with (first | ((with_reducible refine gate_dst (N := 2) rfl ?_); refine bx_ 2 #[.slice A0_0 l0_0.length c0_0, .int .i64 a0_1, .int .i64 a0_2, .slice A0_3 l0_3.length c0_3, .int .i64 a0_4] 26 ?_; intro ab hg w9 hbox hb; have n0_ := Aside0.mk (below_step (bl_ HB.out) hb); have n1_ := Aside0.mk (hbox); have n2_ := Aside0.mk ((sz_ (below_size (bl_ HB.out)) hg : w.heap.size ≤ ab)); have n3_ := Aside0.mk n2_.out; replace HB := n0_; have aa := n1_; have ad := n2_; have ac := n3_; clear n0_ n1_ n2_ n3_; clear hb hbox hg; have an := c5_ aa.out)));go_ret;exact ⟨by first | rfl | (simp [errW_none, errW_some] <;> rfl) | (simp [*, errW_none, errW_some] <;> rfl), bl_ HB.out⟩
end Go.Proofs.YtnalfnoebhmijaaDoor.Pr
namespace Go.Proofs.YtnalfnoebhmijaaDoor.Pr
open Go.RowKit Go.Proofs.YtnalfnoebhmijaaDoorW.PrintWords Go.Proofs.YtnalfnoebhmijaaDoorW.PrintLast Go.Proofs.YtnalfnoebhmijaaDoorW.PrintMore
attribute [local go_sem] max2_int min2_int max_two min_two max_three min_three max_four min_four
set_option linter.unusedVariables false
set_option linter.unusedSimpArgs false
def impl_GrdCell_meets.f (a0_0 : Int) (a0_1 : Int) (a0_2 : Int) (a0_3 : Int) (a0_4 : Int) (a1_0 : Int) (a1_1 : Int) (a1_2 : Int) (a1_3 : Int) (a1_4 : Int) : Option (Bool) := if a0_0 < (wrap64 (a1_0 + a1_2)) then (if a1_0 < (wrap64 (a0_0 + a0_2)) then (if a0_1 < (wrap64 (a1_1 + a1_3)) then (some (decide (a1_1 < (wrap64 (a0_1 + a0_3))))) else (some false)) else (some false)) else (some false)
abbrev qa40 := @Aside0.mk
set_option maxHeartbeats 8000000 in
set_option maxRecDepth 100000 in
theorem impl_GrdCell_meets.calls (a0_0 : Int) (a0_1 : Int) (a0_2 : Int) (a0_3 : Int) (a0_4 : Int) (a1_0 : Int) (a1_1 : Int) (a1_2 : Int) (a1_3 : Int) (a1_4 : Int) (r : Bool) (w : World) (h : impl_GrdCell_meets.f a0_0 a0_1 a0_2 a0_3 a0_4 a1_0 a1_1 a1_2 a1_3 a1_4 = some r) :
  Calls Tryd.prog 40 #[.agg #[.int .i64 a0_0, .int .i64 a0_1, .int .i64 a0_2, .int .i64 a0_3, .int .i64 a0_4], .agg #[.int .i64 a1_0, .int .i64 a1_1, .int .i64 a1_2, .int .i64 a1_3, .int .i64 a1_4]] w fun e w' => e = .returned (.bool r) ∧ Below w.heap.size w w' := by
 have hu37 := Tryd.underlying37;have HB := qa40 (Below.refl w.heap.size w);have H := h;unfold impl_GrdCell_meets.f at H;clear h;by_cases c3 : a0_0 < (wrap64 (a1_0 + a1_2))
 ·rw [if_pos c3] at H;have am : decide (a0_0 < (wrap64 (a1_0 + a1_2))) = true := decide_eq_true c3;clear c3;by_cases c4 : a1_0 < (wrap64 (a0_0 + a0_2))
  ·rw [if_pos c4] at H;have al : decide (a1_0 < (wrap64 (a0_0 + a0_2))) = true := decide_eq_true c4;clear c4;by_cases c5 : a0_1 < (wrap64 (a1_1 + a1_3))
   ·rw [if_pos c5] at H;have ak : decide (a0_1 < (wrap64 (a1_1 + a1_3))) = true := decide_eq_true c5;clear c5;obtain rfl := Option.some.inj H;go_enter Tryd.func40, Tryd.ntmps40;(go_wp2_with (first | ((with_reducible refine gate_dst (N := 2) rfl ?_); refine bx_ 2 #[.int .i64 a0_0, .int .i64 a0_1, .int .i64 a0_2, .int .i64 a0_3, .int .i64 a0_4] 37 ?_; intro ac hg w6 hbox hb; have n0_ := qa40 (below_step (bl_ HB.out) hb); have n1_ := qa40 (hbox); have n2_ := qa40 ((sz_ (below_size (bl_ HB.out)) hg : w.heap.size ≤ ac)); have n3_ := qa40 n2_.out; replace HB := n0_; have aa := n1_; have ai := n2_; have ad := n3_; clear n0_ n1_ n2_ n3_; clear hb hbox hg) | ((with_reducible refine gate_dst (N := 3) rfl ?_); refine bx_ 3 #[.int .i64 a1_0, .int .i64 a1_1, .int .i64 a1_2, .int .i64 a1_3, .int .i64 a1_4] 37 ?_; intro ag hg w7 hbox hb; have n0_ := qa40 (blk_below (g := ac) (kb_ aa.out) hb); have n1_ := qa40 (below_step (bl_ HB.out) hb); have n2_ := qa40 (hbox); have n3_ := qa40 ((sz_ (below_size (bl_ HB.out)) hg : w.heap.size ≤ ag)); have n4_ := qa40 n3_.out; have n5_ := qa40 ((nl_ (blk_lt (g := ac) (kb_ aa.out)) hg : ac ≠ ag)); have n6_ := qa40 (Ne.symm n5_.out); replace aa := n0_; replace HB := n1_; have ab := n2_; have aj := n3_; have ah := n4_; have ae := n5_; have af := n6_; clear n0_ n1_ n2_ n3_ n4_ n5_ n6_; clear hb hbox hg; have hnb8 := ae.out; have hnc8 := af.out; have bC := c5_ aa.out; have bn := c5_ ab.out)));go_ret
    exact ⟨by first | rfl | (simp [errW_none, errW_some] <;> rfl) | (simp [*, errW_none, errW_some] <;> rfl), bl_ HB.out⟩
   rw [if_neg c5] at H;have ak : decide (a0_1 < (wrap64 (a1_1 + a1_3))) = false := decide_eq_false c5;clear c5;obtain rfl := Option.some.inj H;go_enter Tryd.func40, Tryd.ntmps40;(go_wp2_with (first | ((with_reducible refine gate_dst (N := 2) rfl ?_); refine bx_ 2 #[.int .i64 a0_0, .int .i64 a0_1, .int .i64 a0_2, .int .i64 a0_3, .int .i64 a0_4] 37 ?_; intro ac hg w11 hbox hb; have n0_ := qa40 (below_step (bl_ HB.out) hb); have n1_ := qa40 (hbox); have n2_ := qa40 ((sz_ (below_size (bl_ HB.out)) hg : w.heap.size ≤ ac)); have n3_ := qa40 n2_.out; replace HB := n0_; have aa := n1_; have ai := n2_; have ad := n3_; clear n0_ n1_ n2_ n3_; clear hb hbox hg) | ((with_reducible refine gate_dst (N := 3) rfl ?_); refine bx_ 3 #[.int .i64 a1_0, .int .i64 a1_1, .int .i64 a1_2, .int .i64 a1_3, .int .i64 a1_4] 37 ?_; intro ag hg w12 hbox hb; have n0_ := qa40 (blk_below (g := ac) (kb_ aa.out) hb); have n1_ := qa40 (below_step (bl_ HB.out) hb); have n2_ := qa40 (hbox); have n3_ := qa40 ((sz_ (below_size (bl_ HB.out)) hg : w.heap.size ≤ ag)); have n4_ := qa40 n3_.out; have n5_ := qa40 ((nl_ (blk_lt (g := ac) (kb_ aa.out)) hg : ac ≠ ag)); have n6_ := qa40 (Ne.symm n5_.out); replace aa := n0_; replace HB := n1_; have ab := n2_; have aj := n3_; have ah := n4_; have ae := n5_; have af := n6_; clear n0_ n1_ n2_ n3_ n4_ n5_ n6_; clear hb hbox hg; have hnb13 := ae.out; have hnc13 := af.out; have aF := c5_ aa.out; have bf := c5_ ab.out)));go_ret
   exact ⟨by first | rfl | (simp [errW_none, errW_some] <;> rfl) | (simp [*, errW_none, errW_some] <;> rfl), bl_ HB.out⟩
  rw [if_neg c4] at H;have al : decide (a1_0 < (wrap64 (a0_0 + a0_2))) = false := decide_eq_false c4;clear c4;obtain rfl := Option.some.inj H;go_enter Tryd.func40, Tryd.ntmps40;(go_wp2_with (first | ((with_reducible refine gate_dst (N := 2) rfl ?_); refine bx_ 2 #[.int .i64 a0_0, .int .i64 a0_1, .int .i64 a0_2, .int .i64 a0_3, .int .i64 a0_4] 37 ?_; intro ac hg w16 hbox hb; have n0_ := qa40 (below_step (bl_ HB.out) hb); have n1_ := qa40 (hbox); have n2_ := qa40 ((sz_ (below_size (bl_ HB.out)) hg : w.heap.size ≤ ac)); have n3_ := qa40 n2_.out; replace HB := n0_; have aa := n1_; have ai := n2_; have ad := n3_; clear n0_ n1_ n2_ n3_; clear hb hbox hg) | ((with_reducible refine gate_dst (N := 3) rfl ?_); refine bx_ 3 #[.int .i64 a1_0, .int .i64 a1_1, .int .i64 a1_2, .int .i64 a1_3, .int .i64 a1_4] 37 ?_; intro ag hg w17 hbox hb; have n0_ := qa40 (blk_below (g := ac) (kb_ aa.out) hb); have n1_ := qa40 (below_step (bl_ HB.out) hb); have n2_ := qa40 (hbox); have n3_ := qa40 ((sz_ (below_size (bl_ HB.out)) hg : w.heap.size ≤ ag)); have n4_ := qa40 n3_.out; have n5_ := qa40 ((nl_ (blk_lt (g := ac) (kb_ aa.out)) hg : ac ≠ ag)); have n6_ := qa40 (Ne.symm n5_.out); replace aa := n0_; replace HB := n1_; have ab := n2_; have aj := n3_; have ah := n4_; have ae := n5_; have af := n6_; clear n0_ n1_ n2_ n3_ n4_ n5_ n6_; clear hb hbox hg; have hnb18 := ae.out; have hnc18 := af.out; have a5 := c5_ aa.out; have aE := c5_ ab.out)));go_ret
  exact ⟨by first | rfl | (simp [errW_none, errW_some] <;> rfl) | (simp [*, errW_none, errW_some] <;> rfl), bl_ HB.out⟩
 rw [if_neg c3] at H;have am : decide (a0_0 < (wrap64 (a1_0 + a1_2))) = false := decide_eq_false c3;clear c3;obtain rfl := Option.some.inj H;go_enter Tryd.func40, Tryd.ntmps40;(go_wp2_with (first | ((with_reducible refine gate_dst (N := 2) rfl ?_); refine bx_ 2 #[.int .i64 a0_0, .int .i64 a0_1, .int .i64 a0_2, .int .i64 a0_3, .int .i64 a0_4] 37 ?_; intro ac hg w21 hbox hb; have n0_ := qa40 (below_step (bl_ HB.out) hb); have n1_ := qa40 (hbox); have n2_ := qa40 ((sz_ (below_size (bl_ HB.out)) hg : w.heap.size ≤ ac)); have n3_ := qa40 n2_.out; replace HB := n0_; have aa := n1_; have ai := n2_; have ad := n3_; clear n0_ n1_ n2_ n3_; clear hb hbox hg) | ((with_reducible refine gate_dst (N := 3) rfl ?_); refine bx_ 3 #[.int .i64 a1_0, .int .i64 a1_1, .int .i64 a1_2, .int .i64 a1_3, .int .i64 a1_4] 37 ?_; intro ag hg w22 hbox hb; have n0_ := qa40 (blk_below (g := ac) (kb_ aa.out) hb); have n1_ := qa40 (below_step (bl_ HB.out) hb); have n2_ := qa40 (hbox); have n3_ := qa40 ((sz_ (below_size (bl_ HB.out)) hg : w.heap.size ≤ ag)); have n4_ := qa40 n3_.out; have n5_ := qa40 ((nl_ (blk_lt (g := ac) (kb_ aa.out)) hg : ac ≠ ag)); have n6_ := qa40 (Ne.symm n5_.out); replace aa := n0_; replace HB := n1_; have ab := n2_; have aj := n3_; have ah := n4_; have ae := n5_; have af := n6_; clear n0_ n1_ n2_ n3_ n4_ n5_ n6_; clear hb hbox hg; have hnb23 := ae.out; have hnc23 := af.out; have bq := c5_ aa.out; have aG := c5_ ab.out)));go_ret
 exact ⟨by first | rfl | (simp [errW_none, errW_some] <;> rfl) | (simp [*, errW_none, errW_some] <;> rfl), bl_ HB.out⟩
end Go.Proofs.YtnalfnoebhmijaaDoor.Pr
namespace Go.Proofs.YtnalfnoebhmijaaDoor.Pr
open Go.RowKit Go.Proofs.YtnalfnoebhmijaaDoorW.PrintWords Go.Proofs.YtnalfnoebhmijaaDoorW.PrintLast Go.Proofs.YtnalfnoebhmijaaDoorW.PrintMore
attribute [local go_sem] max2_int min2_int max_two min_two max_three min_three max_four min_four
set_option linter.unusedVariables false
set_option linter.unusedSimpArgs false
def grdV (x : S37) : Value := .agg #[.int .i64 x.f0, .int .i64 x.f1, .int .i64 x.f2, .int .i64 x.f3, .int .i64 x.f4]
set_option maxHeartbeats 4000000 in
theorem idxGrd_calls (p : S37 → Bool) (g : Nat) (fst lb : Array Value) (eg : ∀ args w, (callFunc g args).run Tryd.prog w = .ok (.enter g args) w) (A : Option Addr) (c : Nat) (l : List S37) (w : World) (hr : Kd.C k37 w A l.length l) (hc : l.length ≤ c)
    (hp : ∀ (W : World) (x : S37), x ∈ l → Below w.heap.size w W → Calls Tryd.prog g (fst.push (grdV x) ++ lb) W fun e w' => e = .returned (.bool (p x)) ∧ Below W.heap.size W w') :
    Calls Tryd.prog 46 #[.slice A l.length c, .func (.func g) fst lb] w fun e w' => e = .returned (.int .i64 (idxOf p l)) ∧ Below w.heap.size w w' := by
  have HR := Aside0.mk hr
  have HP := Aside0.mk hp
  have hm := Kd.C_max hr
  clear hr hp
  go_enter Tryd.func46, Tryd.ntmps46
  go_wp2
  go_loopg [5, 8] l.length (fun gk v5 v8 wr => ∃ k : Nat, k ≤ l.length ∧ l.length - k ≤ gk ∧ v8 = .int .i64 k ∧ Aside0 (Below w.heap.size w wr) ∧ Aside0 (∀ j x, j < k → l[j]? = some x → p x = false))
  case atStart => exact ⟨0, Nat.zero_le _, by omega, rfl, ⟨Below.refl _ w⟩, ⟨fun j x hj => absurd hj (Nat.not_lt_zero _)⟩⟩
  case round =>
    obtain ⟨k, hk, hg, rfl, BW, HN⟩ := hrel
    by_cases hlt : k < l.length
    · have hltz : (k : Int) < (l.length : Int) := by omega
      obtain ⟨ad, eA, hx0, hx1, hx2, hx3, hx4⟩ := at_T37 HR.out (k : Int) (by omega) hltz
      cases eA
      replace hx0 := (BW.out.cell (World.block_lt_of_cell? w _ hx0)).trans hx0
      replace hx1 := (BW.out.cell (World.block_lt_of_cell? w _ hx1)).trans hx1
      replace hx2 := (BW.out.cell (World.block_lt_of_cell? w _ hx2)).trans hx2
      replace hx3 := (BW.out.cell (World.block_lt_of_cell? w _ hx3)).trans hx3
      replace hx4 := (BW.out.cell (World.block_lt_of_cell? w _ hx4)).trans hx4
      rw [Int.toNat_natCast] at hx0 hx1 hx2 hx3 hx4
      have hmem := getD_at l k z37 hlt
      have hrd : rd_T37 l (k : Int) = l.getD (k : Int).toNat z37 := rfl
      rw [← hrd] at hmem
      have hcall := HP.out wr (rd_T37 l k) (List.mem_of_getElem? hmem) BW.out
      unfold grdV at hcall
      have HM := Aside0.mk hmem
      clear hmem hrd
      cases hq : p (rd_T37 l k) with
      | true =>
        rw [hq] at hcall
        have HQ := Aside0.mk hq
        clear hq
        go_wp2_with ((with_reducible refine hcall.mono ?_); rintro e w' ⟨rfl, hb'⟩)
        go_ret
        exact ⟨by rw [idxOf_hit p l k _ HM.out HQ.out HN.out]; rfl, below_then BW.out BW.out.size hb'⟩
      | false =>
        rw [hq] at hcall
        have HQ := Aside0.mk hq
        clear hq
        go_wp2_with ((with_reducible refine hcall.mono ?_); rintro e w' ⟨rfl, hb'⟩)
        go_roundg (l.length - (k + 1))
        case measure => omega
        case rel =>
          refine ⟨k + 1, by omega, by omega, by go_num, ⟨below_then BW.out BW.out.size hb'⟩, ⟨fun j y hj hy => ?_⟩⟩
          by_cases e : j = k
          · subst e
            rw [HM.out] at hy; cases hy; exact HQ.out
          · exact HN.out j y (by omega) hy
    · have hltz : ¬ (k : Int) < (l.length : Int) := by omega
      have : k = l.length := by omega
      subst this
      go_wp2
      go_ret
      exact ⟨by rw [idxOf_miss p l HN.out]; rfl, BW.out⟩
end Go.Proofs.YtnalfnoebhmijaaDoor.Pr
namespace Go.Proofs.YtnalfnoebhmijaaDoor.Pr
open Go.RowKit Go.Proofs.YtnalfnoebhmijaaDoorW.PrintWords Go.Proofs.YtnalfnoebhmijaaDoorW.PrintLast Go.Proofs.YtnalfnoebhmijaaDoorW.PrintMore
attribute [local go_sem] max2_int min2_int max_two min_two max_three min_three max_four min_four
set_option linter.unusedVariables false
set_option linter.unusedSimpArgs false
set_option maxHeartbeats 2000000 in
theorem contGrd_calls (p : S37 → Bool) (g : Nat) (fst lb : Array Value) (eg : ∀ args w, (callFunc g args).run Tryd.prog w = .ok (.enter g args) w) (A : Option Addr) (c : Nat) (l : List S37) (w : World) (hr : Kd.C k37 w A l.length l) (hc : l.length ≤ c)
    (hp : ∀ (W : World) (x : S37), x ∈ l → Below w.heap.size w W → Calls Tryd.prog g (fst.push (grdV x) ++ lb) W fun e w' => e = .returned (.bool (p x)) ∧ Below W.heap.size W w') :
    Calls Tryd.prog 39 #[.slice A l.length c, .func (.func g) fst lb] w fun e w' => e = .returned (.bool (l.any p)) ∧ Below w.heap.size w w' := by
  have hcall := fun W (hb : W = w) => idxGrd_calls p g fst lb eg A c l W (hb ▸ hr) hc (hb ▸ hp)
  have HC := Aside0.mk hcall
  clear hcall hr hp hc
  have hi := idxOf_range p l
  have hd : decide (0 ≤ idxOf p l) = l.any p := by
    cases h : l.any p
    · apply decide_eq_false; intro q; have := hi.2.2.mp q; rw [h] at this; cases this
    · exact decide_eq_true (hi.2.2.mpr h)
  have HD := Aside0.mk hd
  clear hd hi
  go_enter Tryd.func39, Tryd.ntmps39
  go_wp2_with (go_at_call 46; refine (HC.out _ rfl).mono ?_; rintro e w' ⟨rfl, hb'⟩)
  go_ret
  exact ⟨by rw [← HD.out]; rfl, hb'⟩
def meetsB (c d : S37) : Bool := decide (c.f0 < wrap64 (d.f0 + d.f2)) && (decide (d.f0 < wrap64 (c.f0 + c.f2)) && (decide (c.f1 < wrap64 (d.f1 + d.f3)) && decide (d.f1 < wrap64 (c.f1 + c.f3))))
theorem meetsB_eq (c d : S37) : impl_GrdCell_meets.f c.f0 c.f1 c.f2 c.f3 c.f4 d.f0 d.f1 d.f2 d.f3 d.f4 = some (meetsB c d) := by
  unfold impl_GrdCell_meets.f meetsB
  by_cases h1 : c.f0 < wrap64 (d.f0 + d.f2) <;> by_cases h2 : d.f0 < wrap64 (c.f0 + c.f2) <;> by_cases h3 : c.f1 < wrap64 (d.f1 + d.f3) <;> simp [h1, h2, h3]
def impl_GrdCell_39.f (l0 : List S37) (a1_0 a1_1 a1_2 a1_3 a1_4 : Int) : Option Bool := some (l0.any (meetsB ⟨a1_0, a1_1, a1_2, a1_3, a1_4⟩))
theorem impl_GrdCell_39.calls (A0 : Option Addr) (c0 : Nat) (l0 : List S37) (a1_0 a1_1 a1_2 a1_3 a1_4 : Int) (r : Bool) (w : World) (hr0 : Kd.C k37 w A0 l0.length l0) (hc0 : l0.length ≤ c0) (h : impl_GrdCell_39.f l0 a1_0 a1_1 a1_2 a1_3 a1_4 = some r) :
    Calls Tryd.prog 39 #[.slice A0 l0.length c0, .func (.func 40) #[.agg #[.int .i64 a1_0, .int .i64 a1_1, .int .i64 a1_2, .int .i64 a1_3, .int .i64 a1_4]] #[]] w fun e w' => e = .returned (.bool r) ∧ Below w.heap.size w w' := by
  obtain rfl := Option.some.inj h
  refine contGrd_calls (meetsB ⟨a1_0, a1_1, a1_2, a1_3, a1_4⟩) 40 _ _ (enters_ Tryd.func40 (by kernel_rfl) rfl) A0 c0 l0 w hr0 hc0 (fun W x _ _ => ?_)
  exact impl_GrdCell_meets.calls a1_0 a1_1 a1_2 a1_3 a1_4 x.f0 x.f1 x.f2 x.f3 x.f4 _ W (meetsB_eq ⟨a1_0, a1_1, a1_2, a1_3, a1_4⟩ x)
end Go.Proofs.YtnalfnoebhmijaaDoor.Pr
