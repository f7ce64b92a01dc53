/- A part of what the claim of 'FnTxtMore' leans on. -/
import Derived.Test.YtldmepofbkcmnaaDoorFnTxtMorePr0
import Derived.Test.YtldmepofbkcmnaaDoorFnTxtMorePr16
namespace Go.Proofs.YtldmepofbkcmnaaDoor.Pr
open Go.RowKit Go.Proofs.YtldmepofbkcmnaaDoorW.PrintWords Go.Proofs.YtldmepofbkcmnaaDoorW.PrintLast Go.Proofs.YtldmepofbkcmnaaDoorW.PrintMore
attribute [local go_sem] max2_int min2_int max_two min_two max_three min_three max_four min_four
set_option linter.unusedVariables false
set_option linter.unusedSimpArgs false
def impl_TxtLines.l0 : Nat → Int → List ByteArray → List ByteArray → Int → Int → Option (List ByteArray)
  | 0, _, _, _, _, _ => none
  | k + 1, x1, x5, x10, x11, x12 => if x12 < x11 then (if 0 ≤ x12 then (if x12 < (x10.length : Int) then (if (wrap64 ((x5.length : Int) - 1)) ≥ 0 then (if 0 ≤ (wrap64 ((x5.length : Int) - 1)) then (if (wrap64 ((x5.length : Int) - 1)) < (x5.length : Int) then (if (wrap64 ((wrap64 (((rdOf ByteArray.empty x5 (wrap64 ((x5.length : Int) - 1))).size : Int) + 1)) + ((rdOf ByteArray.empty x10 x12).size : Int))) ≤ x1 then (if 1 + (rdOf ByteArray.empty x10 x12).size ≤ 9223372036854775807 then (if (rdOf ByteArray.empty x5 (wrap64 ((x5.length : Int) - 1))).size + ((⟨#[32]⟩ : ByteArray) ++ (rdOf ByteArray.empty x10 x12)).size ≤ 9223372036854775807 then (impl_TxtLines.l0 k x1 (x5.set ((wrap64 ((x5.length : Int) - 1)) : Int).toNat ((rdOf ByteArray.empty x5 (wrap64 ((x5.length : Int) - 1))) ++ ((⟨#[32]⟩ : ByteArray) ++ (rdOf ByteArray.empty x10 x12)))) x10 x11 (wrap64 (x12 + 1))) else (none)) else (none)) else (if x5.length < 8796093022208 then (impl_TxtLines.l0 k x1 (x5 ++ [rdOf ByteArray.empty x10 x12]) x10 x11 (wrap64 (x12 + 1))) else (none))) else (none)) else (none)) else (if x5.length < 8796093022208 then (impl_TxtLines.l0 k x1 (x5 ++ [rdOf ByteArray.empty x10 x12]) x10 x11 (wrap64 (x12 + 1))) else (none))) else (none)) else (none)) else (some x5)
def impl_TxtLines.f (k : Nat) (a0 : ByteArray) (a1 : Int) : Option (List ByteArray) := (impl_TxtWords.f k a0).bind fun t205 => (impl_TxtLines.l0 k a1 ([] : List ByteArray) t205 (t205.length : Int) 0)
theorem impl_TxtLines.mono_l : ∀ k, (∀ y0 y1 y2 y3 y4, LeO (impl_TxtLines.l0 k y0 y1 y2 y3 y4) (impl_TxtLines.l0 (k + 1) y0 y1 y2 y3 y4))
  | 0 => fun _ _ _ _ _ r h => by simp [impl_TxtLines.l0] at h
  | k + 1 => by
    have ih0 := impl_TxtLines.mono_l k
    · intro y0 y1 y2 y3 y4
      unfold impl_TxtLines.l0
      repeat' first
      | (with_reducible exact ih0 _ _ _ _ _)
      | (with_reducible exact impl_TxtWords.mono _ _)
      | (with_reducible exact LeO.refl _)
      | (with_reducible exact LeO.none _)
      | (with_reducible refine LeO.ite ?_ ?_)
      | (with_reducible refine LeO.bind ?_ (fun _ => ?_))
      | exact ih0 _ _ _ _ _
      | exact impl_TxtWords.mono _ _
      | exact LeO.none _
      | refine LeO.ite ?_ ?_
      | refine LeO.bind ?_ (fun _ => ?_)
theorem impl_TxtLines.mono : ∀ a0 a1 k, LeO (impl_TxtLines.f k a0 a1) (impl_TxtLines.f (k + 1) a0 a1) := by
  intro a0 a1 k
  have ih0 := impl_TxtLines.mono_l k
  unfold impl_TxtLines.f
  repeat' first
      | (with_reducible exact ih0 _ _ _ _ _)
      | (with_reducible exact impl_TxtWords.mono _ _)
      | (with_reducible exact LeO.refl _)
      | (with_reducible exact LeO.none _)
      | (with_reducible refine LeO.ite ?_ ?_)
      | (with_reducible refine LeO.bind ?_ (fun _ => ?_))
      | exact ih0 _ _ _ _ _
      | exact impl_TxtWords.mono _ _
      | exact LeO.none _
      | refine LeO.ite ?_ ?_
      | refine LeO.bind ?_ (fun _ => ?_)
set_option maxHeartbeats 8000000 in
set_option maxRecDepth 100000 in
theorem impl_TxtLines.calls (k : Nat) (a0 : ByteArray) (a1 : Int) (r : List ByteArray) (w : World) (h : impl_TxtLines.f k a0 a1 = some r) :
    Calls Tryd.prog 19 #[.string a0, .int .i64 a1] w fun e w' => ∃ v0_ : Value, e = .returned (v0_) ∧ Kd.R Kd.string 9 w' w.heap.size (fun _ => True) v0_ r ∧ Below w.heap.size w w' := by
  have HB := Aside0.mk (Below.refl w.heap.size w)
  have H : ((impl_TxtWords.f k a0).bind fun t205 => (impl_TxtLines.l0 k a1 ([] : List ByteArray) t205 (t205.length : Int) 0)) = some r := h
  clear h
  replace H := Option.bind_eq_some_iff.mp H
  obtain ⟨t205, A30, H⟩ := H
  replace H : (impl_TxtLines.l0 k a1 ([] : List ByteArray) t205 (t205.length : Int) 0) = some r := H
  have A3 := Aside0.mk A30
  clear A30
  have H' := Aside0.mk H
  clear H
  go_enter Tryd.func19, Tryd.ntmps19
  go_wp2_with (first | ((with_reducible refine gate_callee (f := 16) rfl ?_); refine goesL_ (some 10) rfl rfl Tryd.func16 (by kernel_rfl) rfl #[.string a0] rfl (by (try simp only [List.map_toArray, List.map_cons, List.map_nil]); first | done | rfl | (simp only [List.length_drop, List.length_take]; rfl)) ?_; (with_reducible refine (impl_TxtWords.calls k a0 t205 _ A3.out).mono ?_); rintro e w4 ⟨v206, rfl, ho0, hb⟩; refine ⟨_, rfl, ?_⟩; have n0_ := Aside0.mk (Kd.R_lower ho0 (below_size (by repeat (first | (with_reducible first | exact HB.out | apply below_alloc | apply pw_below_drewN | apply below_drew1) | exact HB.out)))); have n1_ := Aside0.mk (below_step (by repeat (first | (with_reducible first | exact HB.out | apply below_alloc | apply pw_below_drewN | apply below_drew1) | exact HB.out)) hb); clear HB; have HO207 := n0_; have HB := n1_; clear n0_ n1_; (try clear hb); (try clear hb2); (try clear hk); (try clear hi); (try clear ho0); obtain ⟨Ao5, co5, eo5⟩ := Kd.R_slice HO207.out; subst eo5))
  go_loopg [5, 12] k (fun kq v5 v12 w' => ∃ (x5_1 : List ByteArray) (x10_1 : List ByteArray) (x12_1 : Int), v12 = .int .i64 x12_1 ∧ Aside0 (impl_TxtLines.l0 kq a1 x5_1 x10_1 (t205.length : Int) x12_1 = some r) ∧ Aside0 (kq ≤ k) ∧ Aside0 (Kd.R Kd.string 9 w' w.heap.size (fun k_ => some k_ ≠ ((.slice Ao5 t205.length co5) : Value).ownBlock) v5 x5_1) ∧ Aside0 (Kd.R Kd.string 9 w' w.heap.size (fun k_ => some k_ ≠ (v5 : Value).ownBlock) (.slice Ao5 t205.length co5) x10_1) ∧ Aside0 (Below w.heap.size w w'))
  case atStart => exact ⟨(([] : List ByteArray)), (t205), (0), (by first | rfl | (simp; done) | (simp [*]; done)), H', ⟨Nat.le_refl _⟩, ⟨by first | exact Kd.R_nil _ _ _ _ _ | exact Kd.N_nil _ _ _ _ _ | exact Kd.V_nil _ _ _ _ _ | exact Kd.Q_nil _ _ _ _ _ | exact Kd.S_nil _ _ _ _ _⟩, ⟨by (with_reducible repeat (first | apply Kd.R_alloc | apply Kd.R_drewN | apply Kd.R_drew)); exact Kd.R_mono HO207.out (fun _ hk => (by simp [Value.ownBlock]))⟩, ⟨by repeat (first | (with_reducible first | exact HB.out | apply below_alloc | apply pw_below_drewN | apply below_drew1) | exact HB.out)⟩⟩
  case round =>
    clear H'
    try clear c1
    try clear p2
    obtain ⟨x5_1, x10_1, x12_1, rfl, HA, HK1, HO_5, HO_10, HB⟩ := hrel
    have hl10_1 := (Kd.R_reads' HO_10.out).1
    rw [hl10_1] at HO_10
    (try simp only [hl10_1])
    (try simp only [hl10_1] at HO_5)
    cases gk with
    | zero => exact absurd HA.out (by simp [impl_TxtLines.l0])
    | succ k1 =>
      have H := HA.out
      clear HA
      simp only [impl_TxtLines.l0] at H
      by_cases c6 : x12_1 < (t205.length : Int)
      · rw [if_pos c6] at H
        have c6b0 : decide (x12_1 < (t205.length : Int)) = true := decide_eq_true c6
        clear c6
        by_cases c7 : 0 ≤ x12_1
        · rw [if_pos c7] at H
          have c7b0 : decide (0 ≤ x12_1) = true := decide_eq_true c7
          clear c7
          by_cases c8 : x12_1 < (x10_1.length : Int)
          · rw [if_pos c8] at H
            have c8b0 : decide (x12_1 < (x10_1.length : Int)) = true := decide_eq_true c8
            clear c8
            by_cases c9 : (wrap64 ((x5_1.length : Int) - 1)) ≥ 0
            · rw [if_pos c9] at H
              have c9b0 : decide (0 ≤ (wrap64 ((x5_1.length : Int) - 1))) = true := decide_eq_true c9
              clear c9
              obtain ⟨ji10, hji10⟩ : ∃ j_ : Int, (wrap64 ((x5_1.length : Int) - 1)) = j_ := ⟨_, rfl⟩
              replace H : (if 0 ≤ (ji10) then (if (ji10) < (x5_1.length : Int) then (if (wrap64 ((wrap64 (((rdOf ByteArray.empty x5_1 (ji10)).size : Int) + 1)) + ((rdOf ByteArray.empty x10_1 x12_1).size : Int))) ≤ a1 then (if 1 + (rdOf ByteArray.empty x10_1 x12_1).size ≤ 9223372036854775807 then (if (rdOf ByteArray.empty x5_1 (ji10)).size + ((⟨#[32]⟩ : ByteArray) ++ (rdOf ByteArray.empty x10_1 x12_1)).size ≤ 9223372036854775807 then (impl_TxtLines.l0 k1 a1 (x5_1.set ((ji10) : Int).toNat ((rdOf ByteArray.empty x5_1 (ji10)) ++ ((⟨#[32]⟩ : ByteArray) ++ (rdOf ByteArray.empty x10_1 x12_1)))) x10_1 (t205.length : Int) (wrap64 (x12_1 + 1))) else (none)) else (none)) else (if x5_1.length < 8796093022208 then (impl_TxtLines.l0 k1 a1 (x5_1 ++ [rdOf ByteArray.empty x10_1 x12_1]) x10_1 (t205.length : Int) (wrap64 (x12_1 + 1))) else (none))) else (none)) else (none)) = some r := by first | (rw [hji10] at H; exact H) | (simp only [hji10] at H ⊢; exact H)
              (try rw [hji10] at c9b0)
              have hji10w : (IntKind.i64.wrap ((x5_1.length : Int) - 1)) = ji10 := (i64_w _).trans hji10
              by_cases c11 : 0 ≤ (ji10)
              · rw [if_pos c11] at H
                have c11b0 : decide (0 ≤ (ji10)) = true := decide_eq_true c11
                clear c11
                by_cases c12 : (ji10) < (x5_1.length : Int)
                · rw [if_pos c12] at H
                  have c12b0 : decide ((ji10) < (x5_1.length : Int)) = true := decide_eq_true c12
                  clear c12
                  by_cases c13 : (wrap64 ((wrap64 (((rdOf ByteArray.empty x5_1 (ji10)).size : Int) + 1)) + ((rdOf ByteArray.empty x10_1 x12_1).size : Int))) ≤ a1
                  · rw [if_pos c13] at H
                    have c13b0 : decide ((wrap64 ((wrap64 (((rdOf ByteArray.empty x5_1 (ji10)).size : Int) + 1)) + ((rdOf ByteArray.empty x10_1 x12_1).size : Int))) ≤ a1) = true := decide_eq_true c13
                    clear c13
                    by_cases c14 : 1 + (rdOf ByteArray.empty x10_1 x12_1).size ≤ 9223372036854775807
                    · rw [if_pos c14] at H
                      have c14b0 := eq_true c14
                      have c14b1 : decide (1 + (rdOf ByteArray.empty x10_1 x12_1).size ≤ 9223372036854775807) = true := decide_eq_true c14
                      try have c14b2 : (9223372036854775807 < 1 + (rdOf ByteArray.empty x10_1 x12_1).size) = False := eq_false (Nat.not_lt.2 c14)
                      by_cases c15 : (rdOf ByteArray.empty x5_1 (ji10)).size + ((⟨#[32]⟩ : ByteArray) ++ (rdOf ByteArray.empty x10_1 x12_1)).size ≤ 9223372036854775807
                      · rw [if_pos c15] at H
                        have c15b0 := eq_true c15
                        have c15b1 : decide ((rdOf ByteArray.empty x5_1 (ji10)).size + ((⟨#[32]⟩ : ByteArray) ++ (rdOf ByteArray.empty x10_1 x12_1)).size ≤ 9223372036854775807) = true := decide_eq_true c15
                        try have c15b2 : (9223372036854775807 < (rdOf ByteArray.empty x5_1 (ji10)).size + ((⟨#[32]⟩ : ByteArray) ++ (rdOf ByteArray.empty x10_1 x12_1)).size) = False := eq_false (Nat.not_lt.2 c15)
                        (try have c15n2 := c15b2)
                        (try simp only [ByteArray.size_append, show (⟨#[32]⟩ : ByteArray).size = 1 from rfl] at c15n2)
                        obtain ⟨y211, hy211⟩ : ∃ y_ : List ByteArray, y_ = (x5_1.set ((ji10) : Int).toNat ((rdOf ByteArray.empty x5_1 (ji10)) ++ ((⟨#[32]⟩ : ByteArray) ++ (rdOf ByteArray.empty x10_1 x12_1)))) := ⟨_, rfl⟩
                        replace H : (impl_TxtLines.l0 k1 a1 y211 x10_1 (t205.length : Int) (wrap64 (x12_1 + 1))) = some r := by first | (rw [hy211]; with_reducible exact H) | (have H2_ := (Option.bind_some _ _).symm.trans H; rw [hy211]; with_reducible exact H2_) | (have H2_ := (Option.bind_some _ _).symm.trans H; with_reducible exact H2_) | with_reducible exact H | (rw [hy211]; exact H) | exact H
                        have Ny211 := Aside0.mk hy211
                        clear hy211
                        have H' := Aside0.mk H
                        clear H
                        have p208 : 0 ≤ (x12_1 : Int) := of_decide_eq_true (by first | (with_reducible assumption) | assumption)
                        have q208 : x12_1 < (x10_1.length : Int) := of_decide_eq_true (by first | (with_reducible assumption) | assumption)
                        obtain ⟨ad208, e208, hx208_0⟩ := Kd.at_string (Kd.R_reads' HO_10.out).2.2 x12_1 p208 q208
                        cases e208
                        replace p208 := eq_true p208
                        replace q208 := eq_true q208
                        obtain ⟨Ao17, co17, eo17⟩ := Kd.R_slice HO_5.out
                        subst eo17
                        have p209 : 0 ≤ ((ji10) : Int) := of_decide_eq_true (by first | (with_reducible assumption) | assumption)
                        have q209 : (ji10) < (x5_1.length : Int) := of_decide_eq_true (by first | (with_reducible assumption) | assumption)
                        obtain ⟨ad209, e209, hx209_0⟩ := Kd.at_string (Kd.R_reads' HO_5.out).2.2 (ji10) p209 q209
                        cases e209
                        replace p209 := eq_true p209
                        replace q209 := eq_true q209
                        have p210 : 0 ≤ ((ji10) : Int) := of_decide_eq_true (by first | (with_reducible assumption) | assumption)
                        have q210 : (ji10) < (x5_1.length : Int) := of_decide_eq_true (by first | (with_reducible assumption) | assumption)
                        obtain ⟨ad210, e210, hx210_0⟩ := Kd.at_string (Kd.R_reads' HO_5.out).2.2 (ji10) p210 q210
                        obtain rfl : ad209 = ad210 := (by injection e210)
                        replace p210 := eq_true p210
                        replace q210 := eq_true q210
                        have p16 : 0 ≤ ((ji10) : Int) := of_decide_eq_true (by first | (with_reducible assumption) | assumption)
                        have q16 : ((ji10) : Int) < ((x5_1.length : Int) : Int) := of_decide_eq_true (by first | (with_reducible assumption) | assumption)
                        obtain ⟨go16, co16, eo16, gb16, gl16, cl16, HG16⟩ := Kd.R_form HO_5.out (by omega)
                        (first | cases eo16 | (injection eo16 with ea_ en_ ec_; (first | subst ea_ | (injection ea_ with ea_; subst ea_)); subst ec_; clear en_))
                        have GB16 := Aside0.mk gb16
                        have GG16 := Aside0.mk HG16
                        clear gb16 gl16 HG16
                        (first | simp only [add_plain] at hx209_0 | skip)
                        (first | simp only [add_plain] at hx210_0 | skip)
                        obtain ⟨hx16_0, hf16_0⟩ := Kd.R_celln (⟨#[]⟩ : ByteArray) HO_5.out ((ji10) : Int) p16 q16
                        replace p16 := eq_true p16
                        replace q16 := eq_true q16
                        have HP18 := Kd.R_putg HO_5.out ((ji10) : Int) ((rdOf ByteArray.empty x5_1 (ji10)) ++ ((⟨#[32]⟩ : ByteArray) ++ (rdOf ByteArray.empty x10_1 x12_1)))
                        go_wp2_with (first | ((with_reducible refine gate_store (t := 9) (p := 41) rfl ?_); refine store_event (t := 9) (p := 41) (v := ?vo_w19) (w1 := (wr.setCell ⟨go16, ((ji10) : Int).toNat, none⟩ (.string ((rdOf ByteArray.empty x5_1 (ji10)) ++ ((⟨#[32]⟩ : ByteArray) ++ (rdOf ByteArray.empty x10_1 x12_1)))))) ?hg ?ho ?hn ?hr ?_; (case ho => rfl); (case hg => rfl); (case hn => rfl); (case hr => first | (go_simp; done) | (go_simp; rfl)); intro w19 hw; have hg : wr.grownBy w19 (some go16) := (by rw [hw]; exact HP18.2); have hp_ : Kd.R Kd.string 9 w19 w.heap.size (fun k_ => some k_ ≠ (.slice (some ad208) x10_1.length co5 : Value).ownBlock) (.slice (some ⟨go16, 0, none⟩) x5_1.length co17) y211 := (by rw [hw, Ny211.out]; exact HP18.1); clear HP18; have n0_ := Aside0.mk (hp_); have n1_ := Aside0.mk (Kd.R_after (v := (.slice (some ⟨go16, 0, none⟩) x5_1.length co17)) (v1 := (.slice (some ⟨go16, 0, none⟩) x5_1.length co17)) (ok := (fun _ => True)) (by (with_reducible repeat (first | apply Kd.R_alloc | apply Kd.R_drewN | apply Kd.R_drew)); exact Kd.R_mono HO_10.out (fun _ hk => ⟨trivial, hk⟩)) hg (.inl rfl)); have n2_ := Aside0.mk ((by rw [hw]; exact below_set (HB.out) GB16.out : Below w.heap.size w w19)); clear HO_5; clear HO_10; clear HB; have HO_5 := n0_; have HO_10 := n1_; have HB := n2_; clear n0_ n1_ n2_; clear hg hw hp_))
                        (try simp only [← hl10_1])
                        go_roundg k1
                        case measure => have := HK1.out; omega
                        case rel => exact ⟨(y211), (x10_1), (wrap64 (x12_1 + 1)), (by first | rfl | (simp; done) | (simp [*]; done)), H', ⟨by have := HK1.out; omega⟩, ⟨by (try simp only [hl10_1]); (with_reducible repeat (first | apply Kd.R_alloc | apply Kd.R_drewN | apply Kd.R_drew)); exact HO_5.out⟩, ⟨by (try simp only [hl10_1]); (with_reducible repeat (first | apply Kd.R_alloc | apply Kd.R_drewN | apply Kd.R_drew)); exact Kd.R_mono HO_10.out (fun _ hk => hk.2)⟩, ⟨by repeat (first | (with_reducible first | exact HB.out | apply below_alloc | apply pw_below_drewN | apply below_drew1) | exact HB.out)⟩⟩
                      · rw [if_neg c15] at H
                        exact absurd H (by simp)
                    · rw [if_neg c14] at H
                      exact absurd H (by simp)
                  · rw [if_neg c13] at H
                    have c13b0 : decide ((wrap64 ((wrap64 (((rdOf ByteArray.empty x5_1 (ji10)).size : Int) + 1)) + ((rdOf ByteArray.empty x10_1 x12_1).size : Int))) ≤ a1) = false := decide_eq_false c13
                    clear c13
                    by_cases c20 : x5_1.length < 8796093022208
                    · rw [if_pos c20] at H
                      have LMc20 := Aside0.mk c20
                      clear c20
                      obtain ⟨y212, hy212⟩ : ∃ y_ : List ByteArray, y_ = (x5_1 ++ [rdOf ByteArray.empty x10_1 x12_1]) := ⟨_, rfl⟩
                      replace H : (impl_TxtLines.l0 k1 a1 y212 x10_1 (t205.length : Int) (wrap64 (x12_1 + 1))) = some r := by first | (rw [hy212]; with_reducible exact H) | (have H2_ := (Option.bind_some _ _).symm.trans H; rw [hy212]; with_reducible exact H2_) | (have H2_ := (Option.bind_some _ _).symm.trans H; with_reducible exact H2_) | with_reducible exact H | (rw [hy212]; exact H) | exact H
                      have Ny212 := Aside0.mk hy212
                      clear hy212
                      have H' := Aside0.mk H
                      clear H
                      have p208 : 0 ≤ (x12_1 : Int) := of_decide_eq_true (by first | (with_reducible assumption) | assumption)
                      have q208 : x12_1 < (x10_1.length : Int) := of_decide_eq_true (by first | (with_reducible assumption) | assumption)
                      obtain ⟨ad208, e208, hx208_0⟩ := Kd.at_string (Kd.R_reads' HO_10.out).2.2 x12_1 p208 q208
                      cases e208
                      replace p208 := eq_true p208
                      replace q208 := eq_true q208
                      obtain ⟨Ao21, co21, eo21⟩ := Kd.R_slice HO_5.out
                      subst eo21
                      have p209 : 0 ≤ ((ji10) : Int) := of_decide_eq_true (by first | (with_reducible assumption) | assumption)
                      have q209 : (ji10) < (x5_1.length : Int) := of_decide_eq_true (by first | (with_reducible assumption) | assumption)
                      obtain ⟨ad209, e209, hx209_0⟩ := Kd.at_string (Kd.R_reads' HO_5.out).2.2 (ji10) p209 q209
                      cases e209
                      replace p209 := eq_true p209
                      replace q209 := eq_true q209
                      go_wp2_with (first | ((with_reducible refine gate_builtin (b := .append) (xs := #[.tmp 42, .tmp 44]) rfl ?_); (try (refine gate_guard (by rfl) ?_; dsimp only)); at_builtin; refine Kd.R_append Kd.string (w0 := w) w.heap.size rfl (.tmp 42) (.tmp 44) 25 9 (.string ⟨#[]⟩) 16 rfl Tryd.underlying25 info9 rfl (by decide) (by omega) (.slice (some ad209) x5_1.length co21) x5_1 (rdOf ByteArray.empty x10_1 x12_1) [.string (rdOf ByteArray.empty x10_1 x12_1)] (fun k_ => some k_ ≠ (.slice (some ad208) x10_1.length co5 : Value).ownBlock) (fun _ => False) rfl rfl ?aP (fun _ hk => hk.elim) ?aF ?aO ?aB ?aS ?aL ?_; (case aP => exact rfl); (case aB => exact (by repeat (first | (with_reducible first | exact HB.out | apply below_alloc | apply pw_below_drewN | apply below_drew1) | exact HB.out))); (case aF => exact (fun k_ hk => Kd.fresh' (Kd.R_lt (by (with_reducible repeat (first | apply Kd.R_alloc | apply Kd.R_drewN | apply Kd.R_drew)); exact HO_10.out)) k_ hk)); (case aO => exact (by (with_reducible repeat (first | apply Kd.R_alloc | apply Kd.R_drewN | apply Kd.R_drew)); exact HO_5.out)); (case aS => exact (below_size (by repeat (first | (with_reducible first | exact HB.out | apply below_alloc | apply pw_below_drewN | apply below_drew1) | exact HB.out)))); (case aL => have := LMc20.out; omega); intro v213 w22 ho hb hg hat; rw [← Ny212.out] at ho; have n0_ := Aside0.mk (Kd.R_after (ok := (fun _ => True)) (by (with_reducible repeat (first | apply Kd.R_alloc | apply Kd.R_drewN | apply Kd.R_drew)); exact Kd.R_mono HO_10.out (fun _ hk => ⟨trivial, hk⟩)) hg hat); have n1_ := Aside0.mk (hb); have n2_ := Aside0.mk (ho); clear HO_10; clear HB; clear HO_5; have HO_10 := n0_; have HB := n1_; have HO214 := n2_; clear n0_ n1_ n2_; clear ho hb hg hat))
                      (try simp only [← hl10_1])
                      go_roundg k1
                      case measure => have := HK1.out; omega
                      case rel => exact ⟨(y212), (x10_1), (wrap64 (x12_1 + 1)), (by first | rfl | (simp; done) | (simp [*]; done)), H', ⟨by have := HK1.out; omega⟩, ⟨by (try simp only [hl10_1]); (with_reducible repeat (first | apply Kd.R_alloc | apply Kd.R_drewN | apply Kd.R_drew)); exact HO214.out⟩, ⟨by (try simp only [hl10_1]); (with_reducible repeat (first | apply Kd.R_alloc | apply Kd.R_drewN | apply Kd.R_drew)); exact Kd.R_mono HO_10.out (fun _ hk => hk.2)⟩, ⟨by repeat (first | (with_reducible first | exact HB.out | apply below_alloc | apply pw_below_drewN | apply below_drew1) | exact HB.out)⟩⟩
                    · rw [if_neg c20] at H
                      exact absurd H (by simp)
                · rw [if_neg c12] at H
                  exact absurd H (by simp)
              · rw [if_neg c11] at H
                exact absurd H (by simp)
            · rw [if_neg c9] at H
              have c9b0 : decide (0 ≤ (wrap64 ((x5_1.length : Int) - 1))) = false := decide_eq_false c9
              clear c9
              by_cases c23 : x5_1.length < 8796093022208
              · rw [if_pos c23] at H
                have LMc23 := Aside0.mk c23
                clear c23
                obtain ⟨y215, hy215⟩ : ∃ y_ : List ByteArray, y_ = (x5_1 ++ [rdOf ByteArray.empty x10_1 x12_1]) := ⟨_, rfl⟩
                replace H : (impl_TxtLines.l0 k1 a1 y215 x10_1 (t205.length : Int) (wrap64 (x12_1 + 1))) = some r := by first | (rw [hy215]; with_reducible exact H) | (have H2_ := (Option.bind_some _ _).symm.trans H; rw [hy215]; with_reducible exact H2_) | (have H2_ := (Option.bind_some _ _).symm.trans H; with_reducible exact H2_) | with_reducible exact H | (rw [hy215]; exact H) | exact H
                have Ny215 := Aside0.mk hy215
                clear hy215
                have H' := Aside0.mk H
                clear H
                have p208 : 0 ≤ (x12_1 : Int) := of_decide_eq_true (by first | (with_reducible assumption) | assumption)
                have q208 : x12_1 < (x10_1.length : Int) := of_decide_eq_true (by first | (with_reducible assumption) | assumption)
                obtain ⟨ad208, e208, hx208_0⟩ := Kd.at_string (Kd.R_reads' HO_10.out).2.2 x12_1 p208 q208
                cases e208
                replace p208 := eq_true p208
                replace q208 := eq_true q208
                obtain ⟨Ao24, co24, eo24⟩ := Kd.R_slice HO_5.out
                subst eo24
                go_wp2_with (first | ((with_reducible refine gate_builtin (b := .append) (xs := #[.tmp 42, .tmp 44]) rfl ?_); (try (refine gate_guard (by rfl) ?_; dsimp only)); at_builtin; refine Kd.R_append Kd.string (w0 := w) w.heap.size rfl (.tmp 42) (.tmp 44) 25 9 (.string ⟨#[]⟩) 16 rfl Tryd.underlying25 info9 rfl (by decide) (by omega) (.slice Ao24 x5_1.length co24) x5_1 (rdOf ByteArray.empty x10_1 x12_1) [.string (rdOf ByteArray.empty x10_1 x12_1)] (fun k_ => some k_ ≠ (.slice (some ad208) x10_1.length co5 : Value).ownBlock) (fun _ => False) rfl rfl ?aP (fun _ hk => hk.elim) ?aF ?aO ?aB ?aS ?aL ?_; (case aP => exact rfl); (case aB => exact (by repeat (first | (with_reducible first | exact HB.out | apply below_alloc | apply pw_below_drewN | apply below_drew1) | exact HB.out))); (case aF => exact (fun k_ hk => Kd.fresh' (Kd.R_lt (by (with_reducible repeat (first | apply Kd.R_alloc | apply Kd.R_drewN | apply Kd.R_drew)); exact HO_10.out)) k_ hk)); (case aO => exact (by (with_reducible repeat (first | apply Kd.R_alloc | apply Kd.R_drewN | apply Kd.R_drew)); exact HO_5.out)); (case aS => exact (below_size (by repeat (first | (with_reducible first | exact HB.out | apply below_alloc | apply pw_below_drewN | apply below_drew1) | exact HB.out)))); (case aL => have := LMc23.out; omega); intro v216 w25 ho hb hg hat; rw [← Ny215.out] at ho; have n0_ := Aside0.mk (Kd.R_after (ok := (fun _ => True)) (by (with_reducible repeat (first | apply Kd.R_alloc | apply Kd.R_drewN | apply Kd.R_drew)); exact Kd.R_mono HO_10.out (fun _ hk => ⟨trivial, hk⟩)) hg hat); have n1_ := Aside0.mk (hb); have n2_ := Aside0.mk (ho); clear HO_10; clear HB; clear HO_5; have HO_10 := n0_; have HB := n1_; have HO217 := n2_; clear n0_ n1_ n2_; clear ho hb hg hat))
                (try simp only [← hl10_1])
                go_roundg k1
                case measure => have := HK1.out; omega
                case rel => exact ⟨(y215), (x10_1), (wrap64 (x12_1 + 1)), (by first | rfl | (simp; done) | (simp [*]; done)), H', ⟨by have := HK1.out; omega⟩, ⟨by (try simp only [hl10_1]); (with_reducible repeat (first | apply Kd.R_alloc | apply Kd.R_drewN | apply Kd.R_drew)); exact HO217.out⟩, ⟨by (try simp only [hl10_1]); (with_reducible repeat (first | apply Kd.R_alloc | apply Kd.R_drewN | apply Kd.R_drew)); exact Kd.R_mono HO_10.out (fun _ hk => hk.2)⟩, ⟨by repeat (first | (with_reducible first | exact HB.out | apply below_alloc | apply pw_below_drewN | apply below_drew1) | exact HB.out)⟩⟩
              · rw [if_neg c23] at H
                exact absurd H (by simp)
          · rw [if_neg c8] at H
            exact absurd H (by simp)
        · rw [if_neg c7] at H
          exact absurd H (by simp)
      · rw [if_neg c6] at H
        have c6b0 : decide (x12_1 < (t205.length : Int)) = false := decide_eq_false c6
        (try simp only [hl10_1] at c6b0)
        clear c6
        obtain rfl := Option.some.inj H
        go_wp2
        go_ret
        exact ⟨_, by first | rfl | (simp [errW_none, errW_some] <;> rfl) | (simp [*, errW_none, errW_some] <;> rfl), by (with_reducible repeat (first | apply Kd.R_alloc | apply Kd.R_drewN | apply Kd.R_drew)); exact Kd.R_mono HO_5.out (fun _ hk => trivial), by repeat (first | (with_reducible first | exact HB.out | apply below_alloc | apply pw_below_drewN | apply below_drew1) | exact HB.out)⟩
end Go.Proofs.YtldmepofbkcmnaaDoor.Pr
