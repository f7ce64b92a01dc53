/- A part of what the claim of 'FnExactTxtOk' leans on. -/
import Derived.Test.YtcjpojppbmlfaaaDoorFnExactTxtOkPr0
import Derived.Test.YtcjpojppbmlfaaaDoorFnExactTxtOkPr63
import Derived.Test.YtcjpojppbmlfaaaDoorFnExactTxtOkPr48
namespace Go.Proofs.YtcjpojppbmlfaaaDoor.Pr
open Go.RowKit Go.Proofs.YtcjpojppbmlfaaaDoorW.PrintWords Go.Proofs.YtcjpojppbmlfaaaDoorW.PrintLast Go.Proofs.YtcjpojppbmlfaaaDoorW.PrintMore
attribute [local go_sem] max2_int min2_int max_two min_two max_three min_three max_four min_four
set_option linter.unusedVariables false
set_option linter.unusedSimpArgs false
def cmpI (x y : Int) : Int := if x < y then -1 else if x > y then 1 else 0
theorem cmpI_eq (x y : Int) : cmp_Compare_int.f x y = some (cmpI x y) := by
  have hn : ∀ z : Int, cmp_isNaN_int.f z = some false := fun z => by unfold cmp_isNaN_int.f; simp
  unfold cmp_Compare_int.f cmpI
  simp only [hn, Option.bind_some]
  simp
  by_cases h : x < y
  · simp [h]
  · by_cases h2 : y < x <;> simp [h, h2]
def shrCmp (t s : Int) (ws : List Int) (a b : Int) : Option Int :=
  if 0 ≤ a ∧ a < ws.length ∧ 0 ≤ b ∧ b < ws.length then some (cmpI (Int.tmod (t * rd ws b) s) (Int.tmod (t * rd ws a) s)) else none
set_option maxHeartbeats 2000000 in
theorem shrCmp_calls (t s : Int) (ws : List Int) (g2 g3 g5 : Nat) (A : Option Addr) (c : Nat) (a b r : Int) (w : World) (h2 : w.cell? ⟨g2, 0, none⟩ = some (.int .i64 t)) (h3 : w.cell? ⟨g3, 0, none⟩ = some (.slice A ws.length c)) (h5 : w.cell? ⟨g5, 0, none⟩ = some (.int .i64 s))
    (hr : Kd.C (Kd.int .i64) w A ws.length ws) (hc : ws.length ≤ c) (ht : 0 ≤ t ∧ t ≤ 100000) (hs : 1 ≤ s) (hws : ∀ i : Int, 0 ≤ rd ws i ∧ rd ws i ≤ 100000) (h : shrCmp t s ws a b = some r) :
    Calls Tryd.prog 47 (#[.int .i64 a, .int .i64 b] ++ #[.pointer (some ⟨g2, 0, none⟩), .pointer (some ⟨g3, 0, none⟩), .pointer (some ⟨g5, 0, none⟩)]) w fun e w' => e = .returned (.int .i64 r) ∧ Drawn0 w w' := by
  unfold shrCmp at h
  split at h
  case isFalse => cases h
  case isTrue hab =>
  obtain ⟨ha, ha2, hb, hb2⟩ := hab
  obtain rfl := Option.some.inj h
  clear h
  have hm := Kd.C_max hr
  have prod : ∀ i : Int, 0 ≤ t * rd ws i ∧ t * rd ws i ≤ 10000000000 := fun i => by
    obtain ⟨h0, h1⟩ := hws i
    refine ⟨Int.mul_nonneg ht.1 h0, ?_⟩
    have h2 : t * rd ws i ≤ 100000 * rd ws i := Int.mul_le_mul_of_nonneg_right ht.2 h0
    omega
  have pa := prod a
  have pb := prod b
  have wa : IntKind.i64.wrap (t * rd ws a) = t * rd ws a := by rw [IntKind.wrap_i64]; omega
  have wb : IntKind.i64.wrap (t * rd ws b) = t * rd ws b := by rw [IntKind.wrap_i64]; omega
  obtain ⟨ad, eA, hxa⟩ := Kd.at_int hr a ha ha2
  cases eA
  obtain ⟨ad', eA, hxb⟩ := Kd.at_int hr b hb hb2
  cases eA
  have hs0 : ¬ s = 0 := by omega
  have hsb : (s == 0) = false := beq_eq_false_iff_ne.mpr hs0
  have HC := Aside0.mk (fun W => cmp_Compare_int.calls (Int.tmod (t * rd ws b) s) (Int.tmod (t * rd ws a) s) _ W (cmpI_eq _ _))
  clear prod hws hr
  generalize rd ws a = xa at *
  generalize rd ws b = xb at *
  show Calls Tryd.prog 47 #[.int .i64 a, .int .i64 b, .pointer (some ⟨g2, 0, none⟩), .pointer (some ⟨g3, 0, none⟩), .pointer (some ⟨g5, 0, none⟩)] w _
  go_enter Tryd.func47, Tryd.ntmps47
  go_wp2_with fail
  go_quiet (first | (go_at_call 48; (with_reducible refine (HC.out _).mono ?_); rintro e w' ⟨rfl, ⟨nd, rfl⟩⟩; (try first | exact ⟨rfl, _, World.drewN_drewN _ _ _⟩ | exact ⟨rfl, _, Eq.trans (World.drewN_drewN _ _ _) (congrArg (World.drewN _) (Nat.add_assoc _ _ _))⟩)))
  go_wp2
  go_ret
  exact ⟨rfl, by repeat (first | exact Drawn0.refl _ | apply Drawn0.step)⟩
end Go.Proofs.YtcjpojppbmlfaaaDoor.Pr
