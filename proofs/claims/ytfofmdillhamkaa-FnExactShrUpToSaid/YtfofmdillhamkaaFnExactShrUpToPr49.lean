/- A part of what the claim of 'FnExactShrUpTo' leans on. -/
import Derived.Test.YtfofmdillhamkaaFnExactShrUpToPr0
namespace Go.Proofs.Ytfofmdillhamkaa.Pr
open Go.RowKit Go.Proofs.YtfofmdillhamkaaW.PrintWords Go.Proofs.YtfofmdillhamkaaW.PrintLast Go.Proofs.YtfofmdillhamkaaW.PrintMore
attribute [local go_sem] max2_int min2_int max_two min_two max_three min_three max_four min_four
set_option linter.unusedVariables false
set_option linter.unusedSimpArgs false
def spec_l4Next.l0 : Nat → List Int → List Bool → Int → Int → Option (Int)
  | 0, _, _, _, _ => none
  | k + 1, x0, x1, x5, x6 => if x6 < (x0.length : Int) then (if 0 ≤ x6 then (if x6 < (x1.length : Int) then (if rdOf false x1 x6 = true then (spec_l4Next.l0 k x0 x1 x5 (wrap64 (x6 + 1))) else (if x5 < 0 then (spec_l4Next.l0 k x0 x1 x6 (wrap64 (x6 + 1))) else (if 0 ≤ x5 then (if x5 < (x0.length : Int) then (if (rd x0 x6) > (rd x0 x5) then (spec_l4Next.l0 k x0 x1 x6 (wrap64 (x6 + 1))) else (spec_l4Next.l0 k x0 x1 x5 (wrap64 (x6 + 1)))) else (none)) else (none)))) else (none)) else (none)) else (some x5)
def spec_l4Next.f (k : Nat) (l0 : List Int) (l1 : List Bool) : Option (Int) := spec_l4Next.l0 k l0 l1 (-1) 0
theorem spec_l4Next.mono_l : ∀ k, (∀ y0 y1 y2 y3, LeO (spec_l4Next.l0 k y0 y1 y2 y3) (spec_l4Next.l0 (k + 1) y0 y1 y2 y3))
  | 0 => fun _ _ _ _ r h => by simp [spec_l4Next.l0] at h
  | k + 1 => by
    have ih0 := spec_l4Next.mono_l k
    · intro y0 y1 y2 y3
      unfold spec_l4Next.l0
      repeat' first
      | (with_reducible exact ih0 _ _ _ _)
      | (with_reducible exact LeO.refl _)
      | (with_reducible exact LeO.none _)
      | (with_reducible refine LeO.ite ?_ ?_)
      | (with_reducible refine LeO.bind ?_ (fun _ => ?_))
      | exact ih0 _ _ _ _
      | exact LeO.none _
      | refine LeO.ite ?_ ?_
      | refine LeO.bind ?_ (fun _ => ?_)
theorem spec_l4Next.mono : ∀ a0 a1 k, LeO (spec_l4Next.f k a0 a1) (spec_l4Next.f (k + 1) a0 a1) := by
  intro a0 a1 k
  have ih0 := spec_l4Next.mono_l k
  unfold spec_l4Next.f
  repeat' first
      | (with_reducible exact ih0 _ _ _ _)
      | (with_reducible exact LeO.refl _)
      | (with_reducible exact LeO.none _)
      | (with_reducible refine LeO.ite ?_ ?_)
      | (with_reducible refine LeO.bind ?_ (fun _ => ?_))
      | exact ih0 _ _ _ _
      | exact LeO.none _
      | refine LeO.ite ?_ ?_
      | refine LeO.bind ?_ (fun _ => ?_)
set_option maxHeartbeats 8000000 in
set_option maxRecDepth 100000 in
theorem spec_l4Next.calls (k : Nat) (A0 : Option Addr) (c0 : Nat) (l0 : List Int) (A1 : Option Addr) (c1 : Nat) (l1 : List Bool) (r : Int) (w : World) (hr0 : Kd.C (Kd.int .i64) w A0 l0.length l0) (hc0 : l0.length ≤ c0) (hr1 : Kd.C Kd.bool w A1 l1.length l1) (hc1 : l1.length ≤ c1) (h : spec_l4Next.f k l0 l1 = some r) :
    Calls Try.prog 49 #[.slice A0 l0.length c0, .slice A1 l1.length c1] w fun e w' => e = .returned (.int .i64 r) ∧ Drawn0 w w' := by
  have HR0 := Aside0.mk hr0
  have HC0 := Aside0.mk hc0
  clear hr0 hc0
  have HR1 := Aside0.mk hr1
  have HC1 := Aside0.mk hc1
  clear hr1 hc1
  have H : (spec_l4Next.l0 k l0 l1 (-1) 0) = some r := h
  clear h
  have H' := Aside0.mk H
  clear H
  go_enter Try.func49, Try.ntmps49
  go_wp2
  repeat (go_quiet (fail); try go_wp2)
  go_loopg [5, 6] k (fun kq v5 v6 w' => ∃ (x5_1 : Int) (x6_1 : Int), v5 = .int .i64 x5_1 ∧ v6 = .int .i64 x6_1 ∧ Aside0 (spec_l4Next.l0 kq l0 l1 x5_1 x6_1 = some r) ∧ Aside0 (kq ≤ k) ∧ Drawn0 w w')
  case atStart => exact ⟨((-1)), (0), (by first | rfl | (simp; done) | (simp [*]; done)), (by first | rfl | (simp; done) | (simp [*]; done)), H', ⟨Nat.le_refl _⟩, by repeat (first | exact Drawn0.refl _ | apply Drawn0.step)⟩
  case round =>
    clear H'
    try clear c1
    try clear p2
    obtain ⟨x5_1, x6_1, rfl, rfl, HA, HK1, ⟨m1, rfl⟩⟩ := hrel
    cases gk with
    | zero => exact absurd HA.out (by simp [spec_l4Next.l0])
    | succ k1 =>
      have H := HA.out
      clear HA
      simp only [spec_l4Next.l0] at H
      by_cases c3 : x6_1 < (l0.length : Int)
      · rw [if_pos c3] at H
        have c3b0 : decide (x6_1 < (l0.length : Int)) = true := decide_eq_true c3
        clear c3
        by_cases c4 : 0 ≤ x6_1
        · rw [if_pos c4] at H
          have c4b0 : decide (0 ≤ x6_1) = true := decide_eq_true c4
          clear c4
          by_cases c5 : x6_1 < (l1.length : Int)
          · rw [if_pos c5] at H
            have c5b0 : decide (x6_1 < (l1.length : Int)) = true := decide_eq_true c5
            clear c5
            obtain ⟨bq6, hbq6⟩ : ∃ b_ : Bool, b_ = (rdOf false l1 x6_1) := ⟨_, rfl⟩
            replace H : (if bq6 = true then (spec_l4Next.l0 k1 l0 l1 x5_1 (wrap64 (x6_1 + 1))) else (if x5_1 < 0 then (spec_l4Next.l0 k1 l0 l1 x6_1 (wrap64 (x6_1 + 1))) else (if 0 ≤ x5_1 then (if x5_1 < (l0.length : Int) then (if (rd l0 x6_1) > (rd l0 x5_1) then (spec_l4Next.l0 k1 l0 l1 x6_1 (wrap64 (x6_1 + 1))) else (spec_l4Next.l0 k1 l0 l1 x5_1 (wrap64 (x6_1 + 1)))) else (none)) else (none)))) = some r := by rw [← hbq6] at H; exact H
            have Nbq6 := Aside0.mk hbq6
            clear hbq6
            by_cases c7 : bq6 = true
            · subst c7
              have H1 : (spec_l4Next.l0 k1 l0 l1 x5_1 (wrap64 (x6_1 + 1))) = some r := by rw [if_pos rfl] at H; exact H
              clear H
              have H := H1
              clear H1
              have H' := Aside0.mk H
              clear H
              have p232 : 0 ≤ (x6_1 : Int) := of_decide_eq_true (by first | (with_reducible assumption) | assumption)
              have q232 : x6_1 < (l1.length : Int) := of_decide_eq_true (by first | (with_reducible assumption) | assumption)
              obtain ⟨ad232, e232, hx232_0⟩ := Kd.at_bool HR1.out x6_1 p232 q232
              (try rw [← Nbq6.out] at hx232_0)
              cases e232
              replace p232 := eq_true p232
              replace q232 := eq_true q232
              go_wp2
              repeat (go_quiet (fail); try go_wp2)
              go_roundg k1
              case measure => have := HK1.out; omega
              case rel => exact ⟨(x5_1), (wrap64 (x6_1 + 1)), (by first | rfl | (simp; done) | (simp [*]; done)), (by first | rfl | (simp; done) | (simp [*]; done)), H', ⟨by have := HK1.out; omega⟩, by repeat (first | exact Drawn0.refl _ | apply Drawn0.step)⟩
            · replace c7 := Bool.eq_false_iff.mpr c7
              subst c7
              have H1 : (if x5_1 < 0 then (spec_l4Next.l0 k1 l0 l1 x6_1 (wrap64 (x6_1 + 1))) else (if 0 ≤ x5_1 then (if x5_1 < (l0.length : Int) then (if (rd l0 x6_1) > (rd l0 x5_1) then (spec_l4Next.l0 k1 l0 l1 x6_1 (wrap64 (x6_1 + 1))) else (spec_l4Next.l0 k1 l0 l1 x5_1 (wrap64 (x6_1 + 1)))) else (none)) else (none))) = some r := by rw [if_neg (show ¬ (false = true) by decide)] at H; exact H
              clear H
              have H := H1
              clear H1
              by_cases c8 : x5_1 < 0
              · rw [if_pos c8] at H
                have c8b0 : decide (x5_1 < 0) = true := decide_eq_true c8
                clear c8
                have H' := Aside0.mk H
                clear H
                have p232 : 0 ≤ (x6_1 : Int) := of_decide_eq_true (by first | (with_reducible assumption) | assumption)
                have q232 : x6_1 < (l1.length : Int) := of_decide_eq_true (by first | (with_reducible assumption) | assumption)
                obtain ⟨ad232, e232, hx232_0⟩ := Kd.at_bool HR1.out x6_1 p232 q232
                (try rw [← Nbq6.out] at hx232_0)
                cases e232
                replace p232 := eq_true p232
                replace q232 := eq_true q232
                go_wp2
                repeat (go_quiet (fail); try go_wp2)
                go_roundg k1
                case measure => have := HK1.out; omega
                case rel => exact ⟨(x6_1), (wrap64 (x6_1 + 1)), (by first | rfl | (simp; done) | (simp [*]; done)), (by first | rfl | (simp; done) | (simp [*]; done)), H', ⟨by have := HK1.out; omega⟩, by repeat (first | exact Drawn0.refl _ | apply Drawn0.step)⟩
              · rw [if_neg c8] at H
                have c8b0 : decide (x5_1 < 0) = false := decide_eq_false c8
                clear c8
                by_cases c9 : 0 ≤ x5_1
                · rw [if_pos c9] at H
                  have c9b0 : decide (0 ≤ x5_1) = true := decide_eq_true c9
                  clear c9
                  by_cases c10 : x5_1 < (l0.length : Int)
                  · rw [if_pos c10] at H
                    have c10b0 : decide (x5_1 < (l0.length : Int)) = true := decide_eq_true c10
                    clear c10
                    by_cases c11 : (rd l0 x6_1) > (rd l0 x5_1)
                    · rw [if_pos c11] at H
                      have c11b0 : decide ((rd l0 x5_1) < (rd l0 x6_1)) = true := decide_eq_true c11
                      clear c11
                      have H' := Aside0.mk H
                      clear H
                      have p232 : 0 ≤ (x6_1 : Int) := of_decide_eq_true (by first | (with_reducible assumption) | assumption)
                      have q232 : x6_1 < (l1.length : Int) := of_decide_eq_true (by first | (with_reducible assumption) | assumption)
                      obtain ⟨ad232, e232, hx232_0⟩ := Kd.at_bool HR1.out x6_1 p232 q232
                      (try rw [← Nbq6.out] at hx232_0)
                      cases e232
                      replace p232 := eq_true p232
                      replace q232 := eq_true q232
                      have p233 : 0 ≤ (x6_1 : Int) := of_decide_eq_true (by first | (with_reducible assumption) | assumption)
                      have q233 : x6_1 < (l0.length : Int) := of_decide_eq_true (by first | (with_reducible assumption) | assumption)
                      obtain ⟨ad233, e233, hx233_0⟩ := Kd.at_int HR0.out x6_1 p233 q233
                      cases e233
                      replace p233 := eq_true p233
                      replace q233 := eq_true q233
                      have p234 : 0 ≤ (x5_1 : Int) := of_decide_eq_true (by first | (with_reducible assumption) | assumption)
                      have q234 : x5_1 < (l0.length : Int) := of_decide_eq_true (by first | (with_reducible assumption) | assumption)
                      obtain ⟨ad234, e234, hx234_0⟩ := Kd.at_int HR0.out x5_1 p234 q234
                      obtain rfl : ad233 = ad234 := (by injection e234)
                      replace p234 := eq_true p234
                      replace q234 := eq_true q234
                      go_wp2
                      repeat (go_quiet (fail); try go_wp2)
                      go_roundg k1
                      case measure => have := HK1.out; omega
                      case rel => exact ⟨(x6_1), (wrap64 (x6_1 + 1)), (by first | rfl | (simp; done) | (simp [*]; done)), (by first | rfl | (simp; done) | (simp [*]; done)), H', ⟨by have := HK1.out; omega⟩, by repeat (first | exact Drawn0.refl _ | apply Drawn0.step)⟩
                    · rw [if_neg c11] at H
                      have c11b0 : decide ((rd l0 x5_1) < (rd l0 x6_1)) = false := decide_eq_false c11
                      clear c11
                      have H' := Aside0.mk H
                      clear H
                      have p232 : 0 ≤ (x6_1 : Int) := of_decide_eq_true (by first | (with_reducible assumption) | assumption)
                      have q232 : x6_1 < (l1.length : Int) := of_decide_eq_true (by first | (with_reducible assumption) | assumption)
                      obtain ⟨ad232, e232, hx232_0⟩ := Kd.at_bool HR1.out x6_1 p232 q232
                      (try rw [← Nbq6.out] at hx232_0)
                      cases e232
                      replace p232 := eq_true p232
                      replace q232 := eq_true q232
                      have p233 : 0 ≤ (x6_1 : Int) := of_decide_eq_true (by first | (with_reducible assumption) | assumption)
                      have q233 : x6_1 < (l0.length : Int) := of_decide_eq_true (by first | (with_reducible assumption) | assumption)
                      obtain ⟨ad233, e233, hx233_0⟩ := Kd.at_int HR0.out x6_1 p233 q233
                      cases e233
                      replace p233 := eq_true p233
                      replace q233 := eq_true q233
                      have p234 : 0 ≤ (x5_1 : Int) := of_decide_eq_true (by first | (with_reducible assumption) | assumption)
                      have q234 : x5_1 < (l0.length : Int) := of_decide_eq_true (by first | (with_reducible assumption) | assumption)
                      obtain ⟨ad234, e234, hx234_0⟩ := Kd.at_int HR0.out x5_1 p234 q234
                      obtain rfl : ad233 = ad234 := (by injection e234)
                      replace p234 := eq_true p234
                      replace q234 := eq_true q234
                      go_wp2
                      repeat (go_quiet (fail); try go_wp2)
                      go_roundg k1
                      case measure => have := HK1.out; omega
                      case rel => exact ⟨(x5_1), (wrap64 (x6_1 + 1)), (by first | rfl | (simp; done) | (simp [*]; done)), (by first | rfl | (simp; done) | (simp [*]; done)), H', ⟨by have := HK1.out; omega⟩, by repeat (first | exact Drawn0.refl _ | apply Drawn0.step)⟩
                  · rw [if_neg c10] at H
                    exact absurd H (by simp)
                · rw [if_neg c9] at H
                  exact absurd H (by simp)
          · rw [if_neg c5] at H
            exact absurd H (by simp)
        · rw [if_neg c4] at H
          exact absurd H (by simp)
      · rw [if_neg c3] at H
        have c3b0 : decide (x6_1 < (l0.length : Int)) = false := decide_eq_false c3
        clear c3
        obtain rfl := Option.some.inj H
        go_wp2
        repeat (go_quiet (fail); try go_wp2)
        go_ret
        exact ⟨by first | rfl | (simp; done) | (simp [*]; done), by repeat (first | exact Drawn0.refl _ | apply Drawn0.step)⟩
end Go.Proofs.Ytfofmdillhamkaa.Pr
