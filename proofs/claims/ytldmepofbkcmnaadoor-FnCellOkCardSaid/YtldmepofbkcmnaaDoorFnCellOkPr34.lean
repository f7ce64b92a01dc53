/- A part of what the claim of 'FnCellOk' leans on. -/
import Derived.Test.YtldmepofbkcmnaaDoorFnCellOkPr0
import Derived.Test.YtldmepofbkcmnaaDoorFnCellOkPr38
import Derived.Test.YtldmepofbkcmnaaDoorFnCellOkPr48
namespace Go.Proofs.YtldmepofbkcmnaaDoor.Pr
open Go.RowKit Go.Proofs.YtldmepofbkcmnaaDoorW.PrintWords Go.Proofs.YtldmepofbkcmnaaDoorW.PrintLast Go.Proofs.YtldmepofbkcmnaaDoorW.PrintMore
attribute [local go_sem] max2_int min2_int max_two min_two max_three min_three max_four min_four
set_option linter.unusedVariables false
set_option linter.unusedSimpArgs false
def spec_l20AnyText.f (k : Nat) (s0_0 : List Int) (s0_1 : Int) (a1 : Int) : Option (ByteArray × Int) := (spec_l20Text.f k s0_0 s0_1).bind fun bt112 => ((spec_l20Rd_pick.f k s0_0 bt112.2 a1).bind fun bt114 => (if bt114.1 > 0 then (some (bt112.1, bt114.2)) else ((spec_l20Rd_pick.f k s0_0 bt114.2 (wrap64 ((bt112.1.size : Int) + 1))).bind fun bt116 => (if 0 ≤ bt116.1 then (if bt116.1 ≤ (bt112.1.size : Int) then ((some (([(⟨#[32]⟩ : ByteArray), (⟨#[32, 32]⟩ : ByteArray), (⟨#[65]⟩ : ByteArray), (⟨#[49]⟩ : ByteArray), (⟨#[45]⟩ : ByteArray), (⟨#[0]⟩ : ByteArray), (⟨#[97, 98, 99, 100, 101, 102, 103, 104, 105, 106, 97, 98, 99, 100, 101, 102, 103, 104, 105, 106, 97, 98, 99, 100, 101, 102, 103, 104, 105, 106, 120]⟩ : ByteArray)] : List ByteArray) : List ByteArray)).bind fun y118 => ((spec_l20Rd_pick.f k s0_0 bt116.2 7).bind fun bt121 => (if 0 ≤ bt121.1 then (if bt121.1 < (y118.length : Int) then (if (bt112.1.extract 0 (bt116.1 : Int).toNat).size + (rdOf ByteArray.empty y118 bt121.1).size ≤ 9223372036854775807 then (if ((bt112.1.extract 0 (bt116.1 : Int).toNat) ++ (rdOf ByteArray.empty y118 bt121.1)).size + (bt112.1.extract (bt116.1 : Int).toNat bt112.1.size).size ≤ 9223372036854775807 then (some (((bt112.1.extract 0 (bt116.1 : Int).toNat) ++ (rdOf ByteArray.empty y118 bt121.1)) ++ (bt112.1.extract (bt116.1 : Int).toNat bt112.1.size), bt121.2)) else (none)) else (none)) else (none)) else (none)))) else (none)) else (none)))))
theorem spec_l20AnyText.mono : ∀ a0 a1 a2 k, LeO (spec_l20AnyText.f k a0 a1 a2) (spec_l20AnyText.f (k + 1) a0 a1 a2) := by
  intro a0 a1 a2 k
  unfold spec_l20AnyText.f
  repeat' first
      | (with_reducible exact spec_l20Rd_pick.mono _ _ _ _)
      | (with_reducible exact spec_l20Text.mono _ _ _)
      | (with_reducible exact LeO.refl _)
      | (with_reducible exact LeO.none _)
      | (with_reducible refine LeO.ite ?_ ?_)
      | (with_reducible refine LeO.bind ?_ (fun _ => ?_))
      | exact spec_l20Rd_pick.mono _ _ _ _
      | exact spec_l20Text.mono _ _ _
      | exact LeO.none _
      | refine LeO.ite ?_ ?_
      | refine LeO.bind ?_ (fun _ => ?_)
def spec_l20AnyText.T5 : Bool × List (List Nat × List Nat) := (true, [([], []), ([], []), ([0, 1], [0, 1]), ([], []), ([], []), ([4], [4]), ([3, 5], [3, 5]), ([6], [6]), ([2, 7], [2, 7]), ([], []), ([], []), ([9, 10], [9, 10]), ([8, 11], [8, 11]), ([12, 5, 0, 1, 2, 3, 4, 5, 6, 7, 8, 9, 10, 11, 12], [12])])
def spec_l20AnyText.B5 : List Nat := [0, 0, 3, 0, 0, 16, 56, 120, 255, 0, 0, 1536, 4095, 8191]
theorem spec_l20AnyText.tab5 : rtab .any (opsOf Tryd.f34 5) = spec_l20AnyText.T5 := by kernel_rfl
theorem spec_l20AnyText.bits5 : waitsOk spec_l20AnyText.T5.2 spec_l20AnyText.B5 = true := by kernel_rfl
set_option maxHeartbeats 8000000 in
set_option maxRecDepth 100000 in
theorem spec_l20AnyText.calls (k : Nat) (g : Nat) (s0_0 : List Int) (s0_1 : Int) (a1 : Int) (r1 : ByteArray) (r2 : Int) (w0 w : World) (hI : IsS62 w0 w g s0_0 s0_1) (hB : Below w0.heap.size w0 w) (h : spec_l20AnyText.f k s0_0 s0_1 a1 = some (r1, r2)) :
    Calls Tryd.prog 34 #[.pointer (some ⟨g, 0, none⟩), .int .i64 a1] w fun e w' => e = .returned (.string r1) ∧ IsS62 w0 w' g s0_0 r2 ∧ Below w0.heap.size w0 w' ∧ KeepBut w w' g none := by
  have HI0 := Aside0.mk hI
  have HK := Aside0.mk (KeepBut.refl w g none)
  have HL := Aside0.mk hB.size
  clear hI
  have HW0 := Aside0.mk hB.size
  have HB := Aside0.mk hB
  clear hB
  have H : ((spec_l20Text.f k s0_0 s0_1).bind fun bt112 => ((spec_l20Rd_pick.f k s0_0 bt112.2 a1).bind fun bt114 => (if bt114.1 > 0 then (some (bt112.1, bt114.2)) else ((spec_l20Rd_pick.f k s0_0 bt114.2 (wrap64 ((bt112.1.size : Int) + 1))).bind fun bt116 => (if 0 ≤ bt116.1 then (if bt116.1 ≤ (bt112.1.size : Int) then ((some (([(⟨#[32]⟩ : ByteArray), (⟨#[32, 32]⟩ : ByteArray), (⟨#[65]⟩ : ByteArray), (⟨#[49]⟩ : ByteArray), (⟨#[45]⟩ : ByteArray), (⟨#[0]⟩ : ByteArray), (⟨#[97, 98, 99, 100, 101, 102, 103, 104, 105, 106, 97, 98, 99, 100, 101, 102, 103, 104, 105, 106, 97, 98, 99, 100, 101, 102, 103, 104, 105, 106, 120]⟩ : ByteArray)] : List ByteArray) : List ByteArray)).bind fun y118 => ((spec_l20Rd_pick.f k s0_0 bt116.2 7).bind fun bt121 => (if 0 ≤ bt121.1 then (if bt121.1 < (y118.length : Int) then (if (bt112.1.extract 0 (bt116.1 : Int).toNat).size + (rdOf ByteArray.empty y118 bt121.1).size ≤ 9223372036854775807 then (if ((bt112.1.extract 0 (bt116.1 : Int).toNat) ++ (rdOf ByteArray.empty y118 bt121.1)).size + (bt112.1.extract (bt116.1 : Int).toNat bt112.1.size).size ≤ 9223372036854775807 then (some (((bt112.1.extract 0 (bt116.1 : Int).toNat) ++ (rdOf ByteArray.empty y118 bt121.1)) ++ (bt112.1.extract (bt116.1 : Int).toNat bt112.1.size), bt121.2)) else (none)) else (none)) else (none)) else (none)))) else (none)) else (none)))))) = some (r1, r2) := h
  clear h
  replace H := Option.bind_eq_some_iff.mp H
  obtain ⟨⟨t112, t113⟩, A30, H⟩ := H
  replace H : ((spec_l20Rd_pick.f k s0_0 t113 a1).bind fun bt114 => (if bt114.1 > 0 then (some (t112, bt114.2)) else ((spec_l20Rd_pick.f k s0_0 bt114.2 (wrap64 ((t112.size : Int) + 1))).bind fun bt116 => (if 0 ≤ bt116.1 then (if bt116.1 ≤ (t112.size : Int) then ((some (([(⟨#[32]⟩ : ByteArray), (⟨#[32, 32]⟩ : ByteArray), (⟨#[65]⟩ : ByteArray), (⟨#[49]⟩ : ByteArray), (⟨#[45]⟩ : ByteArray), (⟨#[0]⟩ : ByteArray), (⟨#[97, 98, 99, 100, 101, 102, 103, 104, 105, 106, 97, 98, 99, 100, 101, 102, 103, 104, 105, 106, 97, 98, 99, 100, 101, 102, 103, 104, 105, 106, 120]⟩ : ByteArray)] : List ByteArray) : List ByteArray)).bind fun y118 => ((spec_l20Rd_pick.f k s0_0 bt116.2 7).bind fun bt121 => (if 0 ≤ bt121.1 then (if bt121.1 < (y118.length : Int) then (if (t112.extract 0 (bt116.1 : Int).toNat).size + (rdOf ByteArray.empty y118 bt121.1).size ≤ 9223372036854775807 then (if ((t112.extract 0 (bt116.1 : Int).toNat) ++ (rdOf ByteArray.empty y118 bt121.1)).size + (t112.extract (bt116.1 : Int).toNat t112.size).size ≤ 9223372036854775807 then (some (((t112.extract 0 (bt116.1 : Int).toNat) ++ (rdOf ByteArray.empty y118 bt121.1)) ++ (t112.extract (bt116.1 : Int).toNat t112.size), bt121.2)) else (none)) else (none)) else (none)) else (none)))) else (none)) else (none))))) = some (r1, r2) := H
  have A3 := Aside0.mk A30
  clear A30
  replace H := Option.bind_eq_some_iff.mp H
  obtain ⟨⟨t114, t115⟩, A40, H⟩ := H
  replace H : (if t114 > 0 then (some (t112, t115)) else ((spec_l20Rd_pick.f k s0_0 t115 (wrap64 ((t112.size : Int) + 1))).bind fun bt116 => (if 0 ≤ bt116.1 then (if bt116.1 ≤ (t112.size : Int) then ((some (([(⟨#[32]⟩ : ByteArray), (⟨#[32, 32]⟩ : ByteArray), (⟨#[65]⟩ : ByteArray), (⟨#[49]⟩ : ByteArray), (⟨#[45]⟩ : ByteArray), (⟨#[0]⟩ : ByteArray), (⟨#[97, 98, 99, 100, 101, 102, 103, 104, 105, 106, 97, 98, 99, 100, 101, 102, 103, 104, 105, 106, 97, 98, 99, 100, 101, 102, 103, 104, 105, 106, 120]⟩ : ByteArray)] : List ByteArray) : List ByteArray)).bind fun y118 => ((spec_l20Rd_pick.f k s0_0 bt116.2 7).bind fun bt121 => (if 0 ≤ bt121.1 then (if bt121.1 < (y118.length : Int) then (if (t112.extract 0 (bt116.1 : Int).toNat).size + (rdOf ByteArray.empty y118 bt121.1).size ≤ 9223372036854775807 then (if ((t112.extract 0 (bt116.1 : Int).toNat) ++ (rdOf ByteArray.empty y118 bt121.1)).size + (t112.extract (bt116.1 : Int).toNat t112.size).size ≤ 9223372036854775807 then (some (((t112.extract 0 (bt116.1 : Int).toNat) ++ (rdOf ByteArray.empty y118 bt121.1)) ++ (t112.extract (bt116.1 : Int).toNat t112.size), bt121.2)) else (none)) else (none)) else (none)) else (none)))) else (none)) else (none)))) = some (r1, r2) := H
  have A4 := Aside0.mk A40
  clear A40
  by_cases c5 : t114 > 0
  · rw [if_pos c5] at H
    have c5b0 : decide (0 < t114) = true := decide_eq_true c5
    clear c5
    simp only [Option.some.injEq, Prod.mk.injEq] at H
    obtain ⟨rfl, rfl⟩ := H
    go_enter Tryd.func34, Tryd.ntmps34
    go_wp2_with (first | ((with_reducible refine gate_callee (f := 48) rfl ?_); refine goesL_ (some 8) rfl rfl Tryd.func48 (by kernel_rfl) rfl #[.pointer (some ⟨g, 0, none⟩)] rfl (by (try simp only [List.map_toArray, List.map_cons, List.map_nil]); first | done | rfl | (simp only [List.length_drop, List.length_take]; rfl)) ?_; (with_reducible refine (spec_l20Text.calls k g s0_0 s0_1 t112 t113 w0 _ ?side1 ?side2 A3.out).mono ?_); (case side1 => repeat (first | (with_reducible first | exact HI0.out | apply IsS62.alloc | apply IsS62.drewN | apply IsS62.drew | apply IsS62.set_1) | exact HI0.out)); (case side2 => repeat (first | (with_reducible first | exact HB.out | apply below_alloc | apply pw_below_drewN | apply below_drew1 | refine below_set ?_ (IsS62.ge HI0.out)) | exact HB.out)); rintro e w6 ⟨rfl, hi, hb, hk⟩; refine ⟨_, rfl, ?_⟩; have n0_ := Aside0.mk (KeepBut.trans (by repeat (first | (with_reducible first | exact HK.out | apply KeepBut.set_ | apply keep_drewN | apply keep_drew | apply keep_alloc) | exact HK.out)) hk (.inl rfl)); have n1_ := Aside0.mk (hb); have n2_ := Aside0.mk (hi); clear HK; clear HB; clear HI0; have HK := n0_; have HB := n1_; have HI0 := n2_; clear n0_ n1_ n2_; (try clear hb); (try clear hb2); (try clear hk); (try clear hi)) | ((with_reducible refine gate_callee (f := 38) rfl ?_); refine goesL_ (some 11) rfl rfl Tryd.func38 (by kernel_rfl) rfl #[.pointer (some ⟨g, 0, none⟩), .int .i64 a1] rfl (by (try simp only [List.map_toArray, List.map_cons, List.map_nil]); first | done | rfl | (simp only [List.length_drop, List.length_take]; rfl)) ?_; (with_reducible refine (spec_l20Rd_pick.calls k g s0_0 t113 a1 t114 t115 w0 _ ?side1 ?side2 A4.out).mono ?_); (case side1 => repeat (first | (with_reducible first | exact HI0.out | apply IsS62.alloc | apply IsS62.drewN | apply IsS62.drew | apply IsS62.set_1) | exact HI0.out)); (case side2 => repeat (first | (with_reducible first | exact HB.out | apply below_alloc | apply pw_below_drewN | apply below_drew1 | refine below_set ?_ (IsS62.ge HI0.out)) | exact HB.out)); rintro e w7 ⟨rfl, hi, hb, hk⟩; refine ⟨_, rfl, ?_⟩; have n0_ := Aside0.mk (KeepBut.trans (by repeat (first | (with_reducible first | exact HK.out | apply KeepBut.set_ | apply keep_drewN | apply keep_drew | apply keep_alloc) | exact HK.out)) hk (.inl rfl)); have n1_ := Aside0.mk (hb); have n2_ := Aside0.mk (hi); clear HK; clear HB; clear HI0; have HK := n0_; have HB := n1_; have HI0 := n2_; clear n0_ n1_ n2_; (try clear hb); (try clear hb2); (try clear hk); (try clear hi)))
    go_ret
    exact ⟨by first | rfl | (simp [errW_none, errW_some] <;> rfl) | (simp [*, errW_none, errW_some] <;> rfl), by repeat (first | (with_reducible first | exact HI0.out | apply IsS62.alloc | apply IsS62.drewN | apply IsS62.drew | apply IsS62.set_1) | exact HI0.out), by repeat (first | (with_reducible first | exact HB.out | apply below_alloc | apply pw_below_drewN | apply below_drew1 | refine below_set ?_ (IsS62.ge HI0.out)) | exact HB.out), by repeat (first | (with_reducible first | exact HK.out | apply KeepBut.set_ | apply keep_drewN | apply keep_drew | apply keep_alloc) | exact HK.out)⟩
  · rw [if_neg c5] at H
    have c5b0 : decide (0 < t114) = false := decide_eq_false c5
    clear c5
    replace H := Option.bind_eq_some_iff.mp H
    obtain ⟨⟨t116, t117⟩, A80, H⟩ := H
    replace H : (if 0 ≤ t116 then (if t116 ≤ (t112.size : Int) then ((some (([(⟨#[32]⟩ : ByteArray), (⟨#[32, 32]⟩ : ByteArray), (⟨#[65]⟩ : ByteArray), (⟨#[49]⟩ : ByteArray), (⟨#[45]⟩ : ByteArray), (⟨#[0]⟩ : ByteArray), (⟨#[97, 98, 99, 100, 101, 102, 103, 104, 105, 106, 97, 98, 99, 100, 101, 102, 103, 104, 105, 106, 97, 98, 99, 100, 101, 102, 103, 104, 105, 106, 120]⟩ : ByteArray)] : List ByteArray) : List ByteArray)).bind fun y118 => ((spec_l20Rd_pick.f k s0_0 t117 7).bind fun bt121 => (if 0 ≤ bt121.1 then (if bt121.1 < (y118.length : Int) then (if (t112.extract 0 (t116 : Int).toNat).size + (rdOf ByteArray.empty y118 bt121.1).size ≤ 9223372036854775807 then (if ((t112.extract 0 (t116 : Int).toNat) ++ (rdOf ByteArray.empty y118 bt121.1)).size + (t112.extract (t116 : Int).toNat t112.size).size ≤ 9223372036854775807 then (some (((t112.extract 0 (t116 : Int).toNat) ++ (rdOf ByteArray.empty y118 bt121.1)) ++ (t112.extract (t116 : Int).toNat t112.size), bt121.2)) else (none)) else (none)) else (none)) else (none)))) else (none)) else (none)) = some (r1, r2) := H
    have A8 := Aside0.mk A80
    clear A80
    by_cases c9 : 0 ≤ t116
    · rw [if_pos c9] at H
      have c9b0 := eq_true c9
      have c9b1 : decide (0 ≤ t116) = true := decide_eq_true c9
      clear c9
      by_cases c10 : t116 ≤ (t112.size : Int)
      · rw [if_pos c10] at H
        have c10b0 := eq_true c10
        have c10b1 : decide (t116 ≤ (t112.size : Int)) = true := decide_eq_true c10
        clear c10
        obtain ⟨y118, hy118⟩ : ∃ y_ : List ByteArray, y_ = (([(⟨#[32]⟩ : ByteArray), (⟨#[32, 32]⟩ : ByteArray), (⟨#[65]⟩ : ByteArray), (⟨#[49]⟩ : ByteArray), (⟨#[45]⟩ : ByteArray), (⟨#[0]⟩ : ByteArray), (⟨#[97, 98, 99, 100, 101, 102, 103, 104, 105, 106, 97, 98, 99, 100, 101, 102, 103, 104, 105, 106, 97, 98, 99, 100, 101, 102, 103, 104, 105, 106, 120]⟩ : ByteArray)] : List ByteArray)) := ⟨_, rfl⟩
        replace H : ((spec_l20Rd_pick.f k s0_0 t117 7).bind fun bt121 => (if 0 ≤ bt121.1 then (if bt121.1 < (y118.length : Int) then (if (t112.extract 0 (t116 : Int).toNat).size + (rdOf ByteArray.empty y118 bt121.1).size ≤ 9223372036854775807 then (if ((t112.extract 0 (t116 : Int).toNat) ++ (rdOf ByteArray.empty y118 bt121.1)).size + (t112.extract (t116 : Int).toNat t112.size).size ≤ 9223372036854775807 then (some (((t112.extract 0 (t116 : Int).toNat) ++ (rdOf ByteArray.empty y118 bt121.1)) ++ (t112.extract (t116 : Int).toNat t112.size), bt121.2)) else (none)) else (none)) else (none)) else (none))) = some (r1, r2) := by first | (rw [hy118]; with_reducible exact H) | (have H2_ := (Option.bind_some _ _).symm.trans H; rw [hy118]; with_reducible exact H2_) | (have H2_ := (Option.bind_some _ _).symm.trans H; with_reducible exact H2_) | with_reducible exact H | (rw [hy118]; exact H) | exact H
        have Ny118 := Aside0.mk hy118
        clear hy118
        replace H := Option.bind_eq_some_iff.mp H
        obtain ⟨⟨t121, t122⟩, A110, H⟩ := H
        replace H : (if 0 ≤ t121 then (if t121 < (y118.length : Int) then (if (t112.extract 0 (t116 : Int).toNat).size + (rdOf ByteArray.empty y118 t121).size ≤ 9223372036854775807 then (if ((t112.extract 0 (t116 : Int).toNat) ++ (rdOf ByteArray.empty y118 t121)).size + (t112.extract (t116 : Int).toNat t112.size).size ≤ 9223372036854775807 then (some (((t112.extract 0 (t116 : Int).toNat) ++ (rdOf ByteArray.empty y118 t121)) ++ (t112.extract (t116 : Int).toNat t112.size), t122)) else (none)) else (none)) else (none)) else (none)) = some (r1, r2) := H
        have A11 := Aside0.mk A110
        clear A110
        by_cases c12 : 0 ≤ t121
        · rw [if_pos c12] at H
          have c12b0 : decide (0 ≤ t121) = true := decide_eq_true c12
          clear c12
          by_cases c13 : t121 < (y118.length : Int)
          · rw [if_pos c13] at H
            have c13b0 : decide (t121 < (y118.length : Int)) = true := decide_eq_true c13
            clear c13
            by_cases c14 : (t112.extract 0 (t116 : Int).toNat).size + (rdOf ByteArray.empty y118 t121).size ≤ 9223372036854775807
            · rw [if_pos c14] at H
              have c14b0 := eq_true c14
              have c14b1 : decide ((t112.extract 0 (t116 : Int).toNat).size + (rdOf ByteArray.empty y118 t121).size ≤ 9223372036854775807) = true := decide_eq_true c14
              try have c14b2 : (9223372036854775807 < (t112.extract 0 (t116 : Int).toNat).size + (rdOf ByteArray.empty y118 t121).size) = False := eq_false (Nat.not_lt.2 c14)
              have c15b0 := eq_true (of_decide_eq_true (by first | (with_reducible assumption) | assumption) : 0 ≤ t116)
              have c16b0 := eq_true (of_decide_eq_true (by first | (with_reducible assumption) | assumption) : t116 ≤ (t112.size : Int))
              by_cases c17 : ((t112.extract 0 (t116 : Int).toNat) ++ (rdOf ByteArray.empty y118 t121)).size + (t112.extract (t116 : Int).toNat t112.size).size ≤ 9223372036854775807
              · rw [if_pos c17] at H
                have c17b0 := eq_true c17
                have c17b1 : decide (((t112.extract 0 (t116 : Int).toNat) ++ (rdOf ByteArray.empty y118 t121)).size + (t112.extract (t116 : Int).toNat t112.size).size ≤ 9223372036854775807) = true := decide_eq_true c17
                try have c17b2 : (9223372036854775807 < ((t112.extract 0 (t116 : Int).toNat) ++ (rdOf ByteArray.empty y118 t121)).size + (t112.extract (t116 : Int).toNat t112.size).size) = False := eq_false (Nat.not_lt.2 c17)
                (try have c17n2 := c17b2)
                (try simp only [ByteArray.size_append, show (⟨#[32]⟩ : ByteArray).size = 1 from rfl] at c17n2)
                simp only [Option.some.injEq, Prod.mk.injEq] at H
                obtain ⟨rfl, rfl⟩ := H
                go_enter Tryd.func34, Tryd.ntmps34
                try go_wp2_with (first | ((with_reducible refine gate_callee (f := 48) rfl ?_); refine goesL_ (some 8) rfl rfl Tryd.func48 (by kernel_rfl) rfl #[.pointer (some ⟨g, 0, none⟩)] rfl (by (try simp only [List.map_toArray, List.map_cons, List.map_nil]); first | done | rfl | (simp only [List.length_drop, List.length_take]; rfl)) ?_; (with_reducible refine (spec_l20Text.calls k g s0_0 s0_1 t112 t113 w0 _ ?side1 ?side2 A3.out).mono ?_); (case side1 => repeat (first | (with_reducible first | exact HI0.out | apply IsS62.alloc | apply IsS62.drewN | apply IsS62.drew | apply IsS62.set_1) | exact HI0.out)); (case side2 => repeat (first | (with_reducible first | exact HB.out | apply below_alloc | apply pw_below_drewN | apply below_drew1 | refine below_set ?_ (IsS62.ge HI0.out)) | exact HB.out)); rintro e w18 ⟨rfl, hi, hb, hk⟩; refine ⟨_, rfl, ?_⟩; have n0_ := Aside0.mk (KeepBut.trans (by repeat (first | (with_reducible first | exact HK.out | apply KeepBut.set_ | apply keep_drewN | apply keep_drew | apply keep_alloc) | exact HK.out)) hk (.inl rfl)); have n1_ := Aside0.mk (hb); have n2_ := Aside0.mk (hi); clear HK; clear HB; clear HI0; have HK := n0_; have HB := n1_; have HI0 := n2_; clear n0_ n1_ n2_; (try clear hb); (try clear hb2); (try clear hk); (try clear hi)) | ((with_reducible refine gate_callee (f := 38) rfl ?_); refine goesL_ (some 11) rfl rfl Tryd.func38 (by kernel_rfl) rfl #[.pointer (some ⟨g, 0, none⟩), .int .i64 a1] rfl (by (try simp only [List.map_toArray, List.map_cons, List.map_nil]); first | done | rfl | (simp only [List.length_drop, List.length_take]; rfl)) ?_; (with_reducible refine (spec_l20Rd_pick.calls k g s0_0 t113 a1 t114 t115 w0 _ ?side1 ?side2 A4.out).mono ?_); (case side1 => repeat (first | (with_reducible first | exact HI0.out | apply IsS62.alloc | apply IsS62.drewN | apply IsS62.drew | apply IsS62.set_1) | exact HI0.out)); (case side2 => repeat (first | (with_reducible first | exact HB.out | apply below_alloc | apply pw_below_drewN | apply below_drew1 | refine below_set ?_ (IsS62.ge HI0.out)) | exact HB.out)); rintro e w19 ⟨rfl, hi, hb, hk⟩; refine ⟨_, rfl, ?_⟩; have n0_ := Aside0.mk (KeepBut.trans (by repeat (first | (with_reducible first | exact HK.out | apply KeepBut.set_ | apply keep_drewN | apply keep_drew | apply keep_alloc) | exact HK.out)) hk (.inl rfl)); have n1_ := Aside0.mk (hb); have n2_ := Aside0.mk (hi); clear HK; clear HB; clear HI0; have HK := n0_; have HB := n1_; have HI0 := n2_; clear n0_ n1_ n2_; (try clear hb); (try clear hb2); (try clear hk); (try clear hi)) | ((with_reducible refine gate_callee (f := 38) rfl ?_); refine goesL_ (some 18) rfl rfl Tryd.func38 (by kernel_rfl) rfl #[.pointer (some ⟨g, 0, none⟩), .int .i64 (wrap64 ((t112.size : Int) + 1))] rfl (by (try simp only [List.map_toArray, List.map_cons, List.map_nil]); first | done | rfl | (simp only [List.length_drop, List.length_take]; rfl)) ?_; (with_reducible refine (spec_l20Rd_pick.calls k g s0_0 t115 (wrap64 ((t112.size : Int) + 1)) t116 t117 w0 _ ?side1 ?side2 A8.out).mono ?_); (case side1 => repeat (first | (with_reducible first | exact HI0.out | apply IsS62.alloc | apply IsS62.drewN | apply IsS62.drew | apply IsS62.set_1) | exact HI0.out)); (case side2 => repeat (first | (with_reducible first | exact HB.out | apply below_alloc | apply pw_below_drewN | apply below_drew1 | refine below_set ?_ (IsS62.ge HI0.out)) | exact HB.out)); rintro e w20 ⟨rfl, hi, hb, hk⟩; refine ⟨_, rfl, ?_⟩; have n0_ := Aside0.mk (KeepBut.trans (by repeat (first | (with_reducible first | exact HK.out | apply KeepBut.set_ | apply keep_drewN | apply keep_drew | apply keep_alloc) | exact HK.out)) hk (.inl rfl)); have n1_ := Aside0.mk (hb); have n2_ := Aside0.mk (hi); clear HK; clear HB; clear HI0; have HK := n0_; have HB := n1_; have HI0 := n2_; clear n0_ n1_ n2_; (try clear hb); (try clear hb2); (try clear hk); (try clear hi)))
                have pi123 : (0 ≤ (t121 : Int)) = True := eq_true (of_decide_eq_true (by first | (with_reducible assumption) | assumption))
                have qi123 : (t121 < (y118.length : Int)) = True := eq_true (of_decide_eq_true (by first | (with_reducible assumption) | assumption))
                have n0_ := Aside0.mk (IsS62.drew HI0.out)
                have n1_ := Aside0.mk (keep_drew HK.out)
                have n2_ := Aside0.mk (below_drew1 HB.out)
                clear HI0
                clear HK
                clear HB
                have HI0 := n0_
                have HK := n1_
                have HB := n2_
                clear n0_ n1_ n2_
                refine start_ (n := 14) (S := fun w' => True) (ds := []) #[false, false, false, false, false, false, false, false, false, false, false, false, false, false] (by kernel_rfl) rfl rfl trivial (fun hHeld => ?_); refine with_tabW spec_l20AnyText.tab5 spec_l20AnyText.bits5 (fun HT_ HW_ => ?_)
                generalize w20.drew = w21 at HI0 HK HB hHeld ⊢
                refine pure_ (i := 0) (N := some 19) (v := ?_) (a' := ?_) #[true, false, false, false, false, false, false, false, false, false, false, false, false, false] rfl rfl (any_of HT_.out (by kernel_rfl)) (fun _ _ _ h => h) (Or.inl ⟨by rfl, ?_⟩) ?_ ?_
                rotate_left
                · intro w'
                  go_simp
                  with_reducible rfl
                rotate_left
                · simp only [Act.put, List.setIfInBounds_toArray, List.set_cons_zero, List.set_cons_succ, i64_w, i32_w]
                  rfl
                refine pure_ (i := 1) (N := some 20) (v := ?_) (a' := ?_) #[true, true, false, false, false, false, false, false, false, false, false, false, false, false] rfl rfl (any_of HT_.out (by kernel_rfl)) (fun _ _ _ h => h) (Or.inl ⟨by rfl, ?_⟩) ?_ ?_
                rotate_left
                · intro w'
                  go_simp
                  with_reducible rfl
                rotate_left
                · simp only [Act.put, List.setIfInBounds_toArray, List.set_cons_zero, List.set_cons_succ, i64_w, i32_w]
                  rfl
                refine pure_ (i := 4) (N := some 23) (v := ?_) (a' := ?_) #[true, true, false, false, true, false, false, false, false, false, false, false, false, false] rfl rfl (any_of HT_.out (by kernel_rfl)) (fun _ _ _ h => h) (Or.inl ⟨by rfl, ?_⟩) ?_ ?_
                rotate_left
                · intro w'
                  go_simp
                  with_reducible rfl
                rotate_left
                · simp only [Act.put, List.setIfInBounds_toArray, List.set_cons_zero, List.set_cons_succ, i64_w, i32_w]
                  rfl
                refine pure_ (i := 9) (N := some 28) (v := ?_) (a' := ?_) #[true, true, false, false, true, false, false, false, false, true, false, false, false, false] rfl rfl (any_of HT_.out (by kernel_rfl)) (fun _ _ _ h => h) (Or.inl ⟨by rfl, ?_⟩) ?_ ?_
                rotate_left
                · intro w'
                  go_simp
                  with_reducible rfl
                rotate_left
                · simp only [Act.put, List.setIfInBounds_toArray, List.set_cons_zero, List.set_cons_succ, i64_w, i32_w]
                  rfl
                refine pure_ (i := 10) (N := some 29) (v := ?_) (a' := ?_) #[true, true, false, false, true, false, false, false, false, true, true, false, false, false] rfl rfl (any_of HT_.out (by kernel_rfl)) (fun _ _ _ h => h) (Or.inl ⟨by rfl, ?_⟩) ?_ ?_
                rotate_left
                · intro w'
                  go_simp
                  with_reducible rfl
                rotate_left
                · simp only [Act.put, List.setIfInBounds_toArray, List.set_cons_zero, List.set_cons_succ, i64_w, i32_w]
                  rfl
                refine inv_at [2, 3, 5, 6, 7, 8, 11, 12, 13] (fun a0_ b a w' => ∃ (v119 : Value) (adz_v119 : Addr) (m6_ : Value), a = putSel a0_ b [(2, 21, .string (t112.extract 0 (t116 : Int).toNat)), (3, 22, v119), (5, 24, .int .i64 t121), (6, 25, m6_), (7, 26, .string (rdOf ByteArray.empty y118 t121)), (8, 27, .string ((t112.extract 0 (t116 : Int).toNat) ++ (rdOf ByteArray.empty y118 t121))), (11, 30, .string (t112.extract (t116 : Int).toNat t112.size)), (12, 31, .string (((t112.extract 0 (t116 : Int).toNat) ++ (rdOf ByteArray.empty y118 t121)) ++ (t112.extract (t116 : Int).toNat t112.size))), (13, 4, .string (((t112.extract 0 (t116 : Int).toNat) ++ (rdOf ByteArray.empty y118 t121)) ++ (t112.extract (t116 : Int).toNat t112.size)))] ∧ (b 5 = false → IsS62 w0 w' g s0_0 t117) ∧ (KeepBut w w' g none) ∧ (Below w0.heap.size w0 w') ∧ (b 3 = true → Kd.R Kd.string 9 w' w.heap.size (fun _ => True) v119 y118) ∧ (b 3 = true → ∃ c_, (v119 : Value) = .slice (some adz_v119) y118.length c_) ∧ (b 5 = true → IsS62 w0 w' g s0_0 t122) ∧ (b 6 = true → (m6_ : Value) = .pointer (some (adz_v119.add (t121).toNat)))) HT_.out HW_.out (by kernel_rfl) (by kernel_rfl) ?_ ?_ ?_
                · exact ⟨.bool false, ⟨0, 0, none⟩, .bool false, by simp only [putSel, Bool.false_eq_true, if_false], fun _ => HI0.out, HK.out, HB.out, fun h_ => absurd h_ (by decide), fun h_ => absurd h_ (by decide), fun h_ => absurd h_ (by decide), fun h_ => absurd h_ (by decide)⟩
                · skip
                  clear HB HI0 HK
                  refine steps_cons ?_ ?_
                  · rintro b a w' ⟨v119, adz_v119, m6_, ha, Q_HI0, Q_HK, Q_HB, Q_HO120, Q_HA_HO120, Q_HI0_e5, Q_X6_⟩ hb_ hon hoff
                    refine ⟨_, rfl, fun K hK => ?_⟩
                    have e19 : a.tmps[19]? = some (.string t112) := by rw [ha]; exact (putSel_off rfl).trans rfl
                    have e20 : a.tmps[20]? = some (.int .i64 t116) := by rw [ha]; exact (putSel_off rfl).trans rfl
                    replace ha := Aside0.mk ha
                    have HK := Aside0.mk Q_HK
                    have HB := Aside0.mk Q_HB
                    refine value_ (w1 := w') (v := .string (t112.extract 0 (t116 : Int).toNat)) (by rfl) rfl ?_ ?_
                    · go_simp
                      (try simp only [i64_w])
                      try rfl
                      try ((try have xc10_ := of_eq_true c10b0); simp only [ByteArray.size_append, ByteArray.size_extract] at *; omega)
                    refine hK.out _ _ ⟨v119, adz_v119, m6_, (by rw [ha.out]; exact putSel_upk 0 hb_ rfl rfl rfl), Q_HI0, Q_HK, Q_HB, Q_HO120, Q_HA_HO120, Q_HI0_e5, Q_X6_⟩
                  refine steps_cons ?_ ?_
                  · rintro b a w' ⟨v119, adz_v119, m6_, ha, Q_HI0, Q_HK, Q_HB, Q_HO120, Q_HA_HO120, Q_HI0_e5, Q_X6_⟩ hb_ hon hoff
                    refine ⟨_, rfl, fun K hK => ?_⟩
                    replace ha := Aside0.mk ha
                    have HK := Aside0.mk Q_HK
                    have HB := Aside0.mk Q_HB
                    refine Kd.R_lit_step Kd.string _ 9 ?hg (N := 22) ?hd (xs := ([(⟨#[32]⟩ : ByteArray), (⟨#[32, 32]⟩ : ByteArray), (⟨#[65]⟩ : ByteArray), (⟨#[49]⟩ : ByteArray), (⟨#[45]⟩ : ByteArray), (⟨#[0]⟩ : ByteArray), (⟨#[97, 98, 99, 100, 101, 102, 103, 104, 105, 106, 97, 98, 99, 100, 101, 102, 103, 104, 105, 106, 97, 98, 99, 100, 101, 102, 103, 104, 105, 106, 120]⟩ : ByteArray)] : List ByteArray)) (inner := [.string (⟨#[32]⟩ : ByteArray), .string (⟨#[32, 32]⟩ : ByteArray), .string (⟨#[65]⟩ : ByteArray), .string (⟨#[49]⟩ : ByteArray), .string (⟨#[45]⟩ : ByteArray), .string (⟨#[0]⟩ : ByteArray), .string (⟨#[97, 98, 99, 100, 101, 102, 103, 104, 105, 106, 97, 98, 99, 100, 101, 102, 103, 104, 105, 106, 97, 98, 99, 100, 101, 102, 103, 104, 105, 106, 120]⟩ : ByteArray)]) (ok := fun _ => True) (okp := fun _ => True) ?hr ?hp (fun _ hk => hk) trivial (Below.refl _ _) (Nat.le_refl _) (by simp) ?_; (case hd => rfl); (case hg => rfl); (case hr => first | (go_simp; done) | (go_simp; rfl)); (case hp => exact (Reps.one (show Kd.M Kd.string _ _ _ (⟨#[32]⟩ : ByteArray) [.string (⟨#[32]⟩ : ByteArray)] from rfl) (Reps.one (show Kd.M Kd.string _ _ _ (⟨#[32, 32]⟩ : ByteArray) [.string (⟨#[32, 32]⟩ : ByteArray)] from rfl) (Reps.one (show Kd.M Kd.string _ _ _ (⟨#[65]⟩ : ByteArray) [.string (⟨#[65]⟩ : ByteArray)] from rfl) (Reps.one (show Kd.M Kd.string _ _ _ (⟨#[49]⟩ : ByteArray) [.string (⟨#[49]⟩ : ByteArray)] from rfl) (Reps.one (show Kd.M Kd.string _ _ _ (⟨#[45]⟩ : ByteArray) [.string (⟨#[45]⟩ : ByteArray)] from rfl) (Reps.one (show Kd.M Kd.string _ _ _ (⟨#[0]⟩ : ByteArray) [.string (⟨#[0]⟩ : ByteArray)] from rfl) (Reps.one (show Kd.M Kd.string _ _ _ (⟨#[97, 98, 99, 100, 101, 102, 103, 104, 105, 106, 97, 98, 99, 100, 101, 102, 103, 104, 105, 106, 97, 98, 99, 100, 101, 102, 103, 104, 105, 106, 120]⟩ : ByteArray) [.string (⟨#[97, 98, 99, 100, 101, 102, 103, 104, 105, 106, 97, 98, 99, 100, 101, 102, 103, 104, 105, 106, 97, 98, 99, 100, 101, 102, 103, 104, 105, 106, 120]⟩ : ByteArray)] from rfl) (Reps.none _ _)))))))))
                    intro v119 w22 ho23 hb hg_ hnew_
                    clear hg_ hnew_
                    (first | rw [← Ny118.out] at ho23 | (simp only [Int.reduceToNat] at ho23; rw [← Ny118.out] at ho23))
                    have n0_ := Aside0.mk (Kd.R_lower ho23 (keep_size (w := w) (g := g) (row := none) (by repeat (first | (with_reducible first | exact HK.out | apply KeepBut.set_ | apply keep_drewN | apply keep_drew | apply keep_alloc) | exact HK.out))))
                    have n2_ := Aside0.mk (KeepBut.trans (by repeat (first | (with_reducible first | exact HK.out | apply KeepBut.set_ | apply keep_drewN | apply keep_drew | apply keep_alloc) | exact HK.out)) (KeepBut.of_below hb g none) (.inl rfl))
                    have n3_ := Aside0.mk (below_step (by repeat (first | (with_reducible first | exact HB.out | apply below_alloc | apply pw_below_drewN | apply below_drew1) | exact HB.out)) hb)
                    have z_HI0 := fun (h0_ : b 5 = false) => (show IsS62 w0 w22 g s0_0 t117 from by first | exact (IsS62.below (by repeat (first | (with_reducible first | exact (Q_HI0 h0_) | apply IsS62.alloc | apply IsS62.drewN | apply IsS62.drew | apply IsS62.set_1) | exact (Q_HI0 h0_))) hb))
                    have z_HI0_e5 := fun (h0_ : b 5 = true) => (show IsS62 w0 w22 g s0_0 t122 from by first | exact (IsS62.below (by repeat (first | (with_reducible first | exact (Q_HI0_e5 h0_) | apply IsS62.alloc | apply IsS62.drewN | apply IsS62.drew | apply IsS62.set_1) | exact (Q_HI0_e5 h0_))) hb))
                    clear HK
                    clear HB
                    have HO120 := n0_
                    have HK := n2_
                    have HB := n3_
                    clear n0_ n2_ n3_
                    clear hb ho23
                    obtain ⟨Ao24, co24, eo24⟩ := Kd.R_slice HO120.out
                    subst eo24
                    obtain ⟨ado24, fo24, _⟩ := Kd.at_string (Kd.R_reads' HO120.out).2.2 0 (by decide) (by rw [Ny118.out]; simp)
                    cases fo24
                    refine hK.out _ _ ⟨.slice (some ado24) y118.length co24, ado24, m6_, (by rw [ha.out]; exact putSel_upk 1 hb_ rfl rfl rfl), z_HI0, (by repeat (first | (with_reducible first | exact HK.out | apply KeepBut.set_ | apply keep_drewN | apply keep_drew | apply keep_alloc) | exact HK.out)), (by repeat (first | (with_reducible first | exact HB.out | apply below_alloc | apply pw_below_drewN | apply below_drew1) | exact HB.out)), fun _ => (by (with_reducible repeat (first | apply Kd.R_alloc | apply Kd.R_drewN | apply Kd.R_drew)); exact HO120.out), fun _ => ⟨_, rfl⟩, z_HI0_e5, fun h0_ => absurd ((hoff 6 (by kernel_rfl)).symm.trans h0_) (by decide)⟩
                  refine steps_cons ?_ ?_
                  · rintro b a w' ⟨v119, adz_v119, m6_, ha, Q_HI0, Q_HK, Q_HB, Q_HO120, Q_HA_HO120, Q_HI0_e5, Q_X6_⟩ hb_ hon hoff
                    refine ⟨_, rfl, fun K hK => ?_⟩
                    have e23 : a.tmps[23]? = some (.pointer (some ⟨g, 0, none⟩)) := by rw [ha]; exact (putSel_off rfl).trans rfl
                    replace ha := Aside0.mk ha
                    have HI0 := Aside0.mk (Q_HI0 hb_)
                    have HK := Aside0.mk Q_HK
                    have HB := Aside0.mk Q_HB
                    refine goes_ Tryd.func38 (by kernel_rfl) rfl #[.pointer (some ⟨g, 0, none⟩), .int .i64 7] (by rfl) rfl rfl (by first | (simp only [List.map_toArray, List.map_cons, List.map_nil, Act.eval, Array.getD_eq_getD_getElem?, Option.getD_some, e23]; done) | (simp only [List.map_toArray, List.map_cons, List.map_nil, Act.eval, Array.getD_eq_getD_getElem?, Option.getD_some, e23]; rfl)) ?_
                    with_reducible refine (spec_l20Rd_pick.calls k g s0_0 t117 7 t121 t122 w0 _ ?side1 ?side2 A11.out).mono ?_
                    (case side1 => repeat (first | (with_reducible first | exact HI0.out | apply IsS62.alloc | apply IsS62.drewN | apply IsS62.drew | apply IsS62.set_1) | exact HI0.out))
                    (case side2 => repeat (first | (with_reducible first | exact HB.out | apply below_alloc | apply pw_below_drewN | apply below_drew1 | refine below_set ?_ (IsS62.ge HI0.out)) | exact HB.out))
                    rintro e w22 ⟨rfl, hi, hb, hk⟩
                    refine ⟨_, rfl, ?_⟩
                    have n0_ := Aside0.mk (KeepBut.trans (by repeat (first | (with_reducible first | exact HK.out | apply KeepBut.set_ | apply keep_drewN | apply keep_drew | apply keep_alloc) | exact HK.out)) hk (.inl rfl))
                    have n1_ := Aside0.mk (hb)
                    have n2_ := Aside0.mk (hi)
                    have z_HO120 := fun (h0_ : b 3 = true) => (show Kd.R Kd.string 9 w22 w.heap.size (fun _ => True) v119 y118 from by first | exact (Kd.R_mono (Kd.R_keep (IsS62.apart (show IsS62 w0 _ g s0_0 t117 from by repeat (first | (with_reducible first | exact HI0.out | apply IsS62.alloc | apply IsS62.drewN | apply IsS62.drew | apply IsS62.set_1) | exact HI0.out)) (by (with_reducible repeat (first | apply Kd.R_alloc | apply Kd.R_drewN | apply Kd.R_drew)); exact (Q_HO120 h0_)) (by decide)) hk (fun _ h => h.2)) (fun _ h => h.1)) | exact Kd.R_mono (Kd.R_mono (Kd.R_keep (IsS62.apart (show IsS62 w0 _ g s0_0 t117 from by repeat (first | (with_reducible first | exact HI0.out | apply IsS62.alloc | apply IsS62.drewN | apply IsS62.drew | apply IsS62.set_1) | exact HI0.out)) (by (with_reducible repeat (first | apply Kd.R_alloc | apply Kd.R_drewN | apply Kd.R_drew)); exact (Q_HO120 h0_)) (by decide)) hk (fun _ h => h.2)) (fun _ h => h.1)) (fun _ h_ => by first | trivial | exact h_ | exact h_.1))
                    clear HK
                    clear HB
                    clear HI0
                    have HK := n0_
                    have HB := n1_
                    have HI0 := n2_
                    clear n0_ n1_ n2_
                    (try clear hb)
                    (try clear hb2)
                    (try clear hk)
                    (try clear hi)
                    refine hK.out _ _ ⟨v119, adz_v119, m6_, (by rw [ha.out]; exact putSel_upk 2 hb_ rfl rfl rfl), fun h0_ => absurd ((up_self b 5).symm.trans h0_) (by decide), (by repeat (first | (with_reducible first | exact HK.out | apply KeepBut.set_ | apply keep_drewN | apply keep_drew | apply keep_alloc) | exact HK.out)), (by repeat (first | (with_reducible first | exact HB.out | apply below_alloc | apply pw_below_drewN | apply below_drew1 | refine below_set ?_ (IsS62.ge HI0.out)) | exact HB.out)), z_HO120, Q_HA_HO120, fun _ => (by repeat (first | (with_reducible first | exact HI0.out | apply IsS62.alloc | apply IsS62.drewN | apply IsS62.drew | apply IsS62.set_1) | exact HI0.out)), fun h0_ => absurd ((hoff 6 (by kernel_rfl)).symm.trans h0_) (by decide)⟩
                  refine steps_cons ?_ ?_
                  · rintro b a w' ⟨v119, adz_v119, m6_, ha, Q_HI0, Q_HK, Q_HB, Q_HO120, Q_HA_HO120, Q_HI0_e5, Q_X6_⟩ hb_ hon hoff
                    refine ⟨_, rfl, fun K hK => ?_⟩
                    have e22 : a.tmps[22]? = some (v119) := by rw [ha]; exact putSel_on (e := (3, 22, v119)) 1 rfl rfl (hon 3 (by kernel_rfl)) rfl
                    have e24 : a.tmps[24]? = some (.int .i64 t121) := by rw [ha]; exact putSel_on (e := (5, 24, .int .i64 t121)) 2 rfl rfl (hon 5 (by kernel_rfl)) rfl
                    replace ha := Aside0.mk ha
                    have HK := Aside0.mk Q_HK
                    have HB := Aside0.mk Q_HB
                    have HO120 := Aside0.mk (Q_HO120 (hon 3 (by kernel_rfl)))
                    have HA_HO120 := Aside0.mk (Q_HA_HO120 (hon 3 (by kernel_rfl)))
                    have HI0 := Aside0.mk (Q_HI0_e5 (hon 5 (by kernel_rfl)))
                    obtain ⟨c_, hv_⟩ := HA_HO120.out
                    rw [hv_] at e22
                    refine value_ (w1 := w') (v := .pointer (some (adz_v119.add (t121).toNat))) (by rfl) rfl ?_ ?_
                    · go_simp
                      (try simp only [i64_w])
                      try rfl
                      try ((try have xc10_ := of_eq_true c10b0); simp only [ByteArray.size_append, ByteArray.size_extract] at *; omega)
                    refine hK.out _ _ ⟨v119, adz_v119, (.pointer (some (adz_v119.add (t121).toNat))), (by rw [ha.out]; exact putSel_upk 3 hb_ rfl rfl rfl), fun h0_ => absurd ((hon 5 (by kernel_rfl)).symm.trans h0_) (by decide), Q_HK, Q_HB, Q_HO120, Q_HA_HO120, Q_HI0_e5, fun _ => rfl⟩
                  refine steps_cons ?_ ?_
                  · rintro b a w' ⟨v119, adz_v119, m6_, ha, Q_HI0, Q_HK, Q_HB, Q_HO120, Q_HA_HO120, Q_HI0_e5, Q_X6_⟩ hb_ hon hoff
                    refine ⟨_, rfl, fun K hK => ?_⟩
                    have e25 : a.tmps[25]? = some (m6_) := by rw [ha]; exact putSel_on (e := (6, 25, m6_)) 3 rfl rfl (hon 6 (by kernel_rfl)) rfl
                    rw [Q_X6_ (hon 6 (by kernel_rfl))] at e25
                    replace ha := Aside0.mk ha
                    have HK := Aside0.mk Q_HK
                    have HB := Aside0.mk Q_HB
                    have HO120 := Aside0.mk (Q_HO120 (hon 3 (by kernel_rfl)))
                    have HA_HO120 := Aside0.mk (Q_HA_HO120 (hon 3 (by kernel_rfl)))
                    have HI0 := Aside0.mk (Q_HI0_e5 (hon 5 (by kernel_rfl)))
                    obtain ⟨c_, hv_⟩ := HA_HO120.out
                    have hF_ := HO120.out
                    rw [hv_] at hF_
                    obtain ⟨ad_, ea_, hx_⟩ := Kd.at_string (Kd.R_reads' hF_).2.2 t121 (of_eq_true pi123) (of_eq_true qi123)
                    cases ea_
                    refine value_ (w1 := w') (v := .string (rdOf ByteArray.empty y118 t121)) (by rfl) rfl ?_ ?_
                    · go_simp
                      (try simp only [i64_w])
                      try rfl
                      try ((try have xc10_ := of_eq_true c10b0); simp only [ByteArray.size_append, ByteArray.size_extract] at *; omega)
                    refine hK.out _ _ ⟨v119, adz_v119, m6_, (by rw [ha.out]; exact putSel_upk 4 hb_ rfl rfl rfl), fun h0_ => absurd ((hon 5 (by kernel_rfl)).symm.trans h0_) (by decide), Q_HK, Q_HB, Q_HO120, Q_HA_HO120, Q_HI0_e5, Q_X6_⟩
                  refine steps_cons ?_ ?_
                  · rintro b a w' ⟨v119, adz_v119, m6_, ha, Q_HI0, Q_HK, Q_HB, Q_HO120, Q_HA_HO120, Q_HI0_e5, Q_X6_⟩ hb_ hon hoff
                    refine ⟨_, rfl, fun K hK => ?_⟩
                    have e21 : a.tmps[21]? = some (.string (t112.extract 0 (t116 : Int).toNat)) := by rw [ha]; exact putSel_on (e := (2, 21, .string (t112.extract 0 (t116 : Int).toNat))) 0 rfl rfl (hon 2 (by kernel_rfl)) rfl
                    have e26 : a.tmps[26]? = some (.string (rdOf ByteArray.empty y118 t121)) := by rw [ha]; exact putSel_on (e := (7, 26, .string (rdOf ByteArray.empty y118 t121))) 4 rfl rfl (hon 7 (by kernel_rfl)) rfl
                    replace ha := Aside0.mk ha
                    have HK := Aside0.mk Q_HK
                    have HB := Aside0.mk Q_HB
                    have HO120 := Aside0.mk (Q_HO120 (hon 3 (by kernel_rfl)))
                    have HA_HO120 := Aside0.mk (Q_HA_HO120 (hon 3 (by kernel_rfl)))
                    have HI0 := Aside0.mk (Q_HI0_e5 (hon 5 (by kernel_rfl)))
                    refine value_ (w1 := w') (v := .string ((t112.extract 0 (t116 : Int).toNat) ++ (rdOf ByteArray.empty y118 t121))) (by rfl) rfl ?_ ?_
                    · go_simp
                      (try simp only [i64_w])
                      try rfl
                      try ((try have xc10_ := of_eq_true c10b0); simp only [ByteArray.size_append, ByteArray.size_extract] at *; omega)
                    refine hK.out _ _ ⟨v119, adz_v119, m6_, (by rw [ha.out]; exact putSel_upk 5 hb_ rfl rfl rfl), fun h0_ => absurd ((hon 5 (by kernel_rfl)).symm.trans h0_) (by decide), Q_HK, Q_HB, Q_HO120, Q_HA_HO120, Q_HI0_e5, Q_X6_⟩
                  refine steps_cons ?_ ?_
                  · rintro b a w' ⟨v119, adz_v119, m6_, ha, Q_HI0, Q_HK, Q_HB, Q_HO120, Q_HA_HO120, Q_HI0_e5, Q_X6_⟩ hb_ hon hoff
                    refine ⟨_, rfl, fun K hK => ?_⟩
                    have e28 : a.tmps[28]? = some (.string t112) := by rw [ha]; exact (putSel_off rfl).trans rfl
                    have e29 : a.tmps[29]? = some (.int .i64 t116) := by rw [ha]; exact (putSel_off rfl).trans rfl
                    replace ha := Aside0.mk ha
                    have HK := Aside0.mk Q_HK
                    have HB := Aside0.mk Q_HB
                    refine value_ (w1 := w') (v := .string (t112.extract (t116 : Int).toNat t112.size)) (by rfl) rfl ?_ ?_
                    · go_simp
                      (try simp only [i64_w])
                      try rfl
                      try ((try have xc10_ := of_eq_true c10b0); simp only [ByteArray.size_append, ByteArray.size_extract] at *; omega)
                    refine hK.out _ _ ⟨v119, adz_v119, m6_, (by rw [ha.out]; exact putSel_upk 6 hb_ rfl rfl rfl), Q_HI0, Q_HK, Q_HB, Q_HO120, Q_HA_HO120, Q_HI0_e5, Q_X6_⟩
                  refine steps_cons ?_ ?_
                  · rintro b a w' ⟨v119, adz_v119, m6_, ha, Q_HI0, Q_HK, Q_HB, Q_HO120, Q_HA_HO120, Q_HI0_e5, Q_X6_⟩ hb_ hon hoff
                    refine ⟨_, rfl, fun K hK => ?_⟩
                    have e27 : a.tmps[27]? = some (.string ((t112.extract 0 (t116 : Int).toNat) ++ (rdOf ByteArray.empty y118 t121))) := by rw [ha]; exact putSel_on (e := (8, 27, .string ((t112.extract 0 (t116 : Int).toNat) ++ (rdOf ByteArray.empty y118 t121)))) 5 rfl rfl (hon 8 (by kernel_rfl)) rfl
                    have e30 : a.tmps[30]? = some (.string (t112.extract (t116 : Int).toNat t112.size)) := by rw [ha]; exact putSel_on (e := (11, 30, .string (t112.extract (t116 : Int).toNat t112.size))) 6 rfl rfl (hon 11 (by kernel_rfl)) rfl
                    replace ha := Aside0.mk ha
                    have HK := Aside0.mk Q_HK
                    have HB := Aside0.mk Q_HB
                    have HO120 := Aside0.mk (Q_HO120 (hon 3 (by kernel_rfl)))
                    have HA_HO120 := Aside0.mk (Q_HA_HO120 (hon 3 (by kernel_rfl)))
                    have HI0 := Aside0.mk (Q_HI0_e5 (hon 5 (by kernel_rfl)))
                    refine value_ (w1 := w') (v := .string (((t112.extract 0 (t116 : Int).toNat) ++ (rdOf ByteArray.empty y118 t121)) ++ (t112.extract (t116 : Int).toNat t112.size))) (by rfl) rfl ?_ ?_
                    · go_simp
                      (try simp only [i64_w])
                      try rfl
                      try ((try have xc10_ := of_eq_true c10b0); simp only [ByteArray.size_append, ByteArray.size_extract] at *; omega)
                    refine hK.out _ _ ⟨v119, adz_v119, m6_, (by rw [ha.out]; exact putSel_upk 7 hb_ rfl rfl rfl), fun h0_ => absurd ((hon 5 (by kernel_rfl)).symm.trans h0_) (by decide), Q_HK, Q_HB, Q_HO120, Q_HA_HO120, Q_HI0_e5, Q_X6_⟩
                  refine steps_cons ?_ ?_
                  · rintro b a w' ⟨v119, adz_v119, m6_, ha, Q_HI0, Q_HK, Q_HB, Q_HO120, Q_HA_HO120, Q_HI0_e5, Q_X6_⟩ hb_ hon hoff
                    refine ⟨_, rfl, fun K hK => ?_⟩
                    have e31 : a.tmps[31]? = some (.string (((t112.extract 0 (t116 : Int).toNat) ++ (rdOf ByteArray.empty y118 t121)) ++ (t112.extract (t116 : Int).toNat t112.size))) := by rw [ha]; exact putSel_on (e := (12, 31, .string (((t112.extract 0 (t116 : Int).toNat) ++ (rdOf ByteArray.empty y118 t121)) ++ (t112.extract (t116 : Int).toNat t112.size)))) 7 rfl rfl (hon 12 (by kernel_rfl)) rfl
                    replace ha := Aside0.mk ha
                    have HK := Aside0.mk Q_HK
                    have HB := Aside0.mk Q_HB
                    have HO120 := Aside0.mk (Q_HO120 (hon 3 (by kernel_rfl)))
                    have HA_HO120 := Aside0.mk (Q_HA_HO120 (hon 3 (by kernel_rfl)))
                    have HI0 := Aside0.mk (Q_HI0_e5 (hon 5 (by kernel_rfl)))
                    refine value_ (w1 := w') (v := .string (((t112.extract 0 (t116 : Int).toNat) ++ (rdOf ByteArray.empty y118 t121)) ++ (t112.extract (t116 : Int).toNat t112.size))) (by rfl) rfl ?_ ?_
                    · go_simp
                      (try simp only [i64_w])
                      try rfl
                      try ((try have xc10_ := of_eq_true c10b0); simp only [ByteArray.size_append, ByteArray.size_extract] at *; omega)
                    refine hK.out _ _ ⟨v119, adz_v119, m6_, (by rw [ha.out]; exact putSel_upk 8 hb_ rfl rfl rfl), fun h0_ => absurd ((hon 5 (by kernel_rfl)).symm.trans h0_) (by decide), Q_HK, Q_HB, Q_HO120, Q_HA_HO120, Q_HI0_e5, Q_X6_⟩
                  exact steps_nil
                rintro b a w26 hall ⟨v119, adz_v119, m6_, ha, Q_HI0, Q_HK, Q_HB, Q_HO120, Q_HA_HO120, Q_HI0_e5, Q_X6_⟩
                clear HB HI0 HK
                have hb2_ := hall 2 (by kernel_rfl)
                have hb3_ := hall 3 (by kernel_rfl)
                have hb5_ := hall 5 (by kernel_rfl)
                have hb6_ := hall 6 (by kernel_rfl)
                have hb7_ := hall 7 (by kernel_rfl)
                have hb8_ := hall 8 (by kernel_rfl)
                have hb11_ := hall 11 (by kernel_rfl)
                have hb12_ := hall 12 (by kernel_rfl)
                have hb13_ := hall 13 (by kernel_rfl)
                subst ha
                obtain rfl := Q_X6_ hb6_
                simp only [putSel, hb2_, hb3_, hb5_, hb6_, hb7_, hb8_, hb11_, hb12_, hb13_, if_true, Act.put, List.setIfInBounds_toArray, List.set_cons_zero, List.set_cons_succ]
                clear Q_HI0
                have HK := Aside0.mk Q_HK
                clear Q_HK
                have HB := Aside0.mk Q_HB
                clear Q_HB
                have HO120 := Aside0.mk (Q_HO120 hb3_)
                clear Q_HO120
                have HA_HO120 := Aside0.mk (Q_HA_HO120 hb3_)
                clear Q_HA_HO120
                have HI0 := Aside0.mk (Q_HI0_e5 hb5_)
                clear Q_HI0_e5
                clear hall hb2_ hb3_ hb5_ hb6_ hb7_ hb8_ hb11_ hb12_ hb13_
                obtain ⟨co27, eo27⟩ := HA_HO120.out
                clear HA_HO120
                subst eo27
                try go_wp2
                go_ret
                exact ⟨by first | rfl | (simp [errW_none, errW_some] <;> rfl) | (simp [*, errW_none, errW_some] <;> rfl), by repeat (first | (with_reducible first | exact HI0.out | apply IsS62.alloc | apply IsS62.drewN | apply IsS62.drew | apply IsS62.set_1) | exact HI0.out), by repeat (first | (with_reducible first | exact HB.out | apply below_alloc | apply pw_below_drewN | apply below_drew1 | refine below_set ?_ (IsS62.ge HI0.out)) | exact HB.out), by repeat (first | (with_reducible first | exact HK.out | apply KeepBut.set_ | apply keep_drewN | apply keep_drew | apply keep_alloc) | exact HK.out)⟩
              · rw [if_neg c17] at H
                exact absurd H (by simp)
            · rw [if_neg c14] at H
              exact absurd H (by simp)
          · rw [if_neg c13] at H
            exact absurd H (by simp)
        · rw [if_neg c12] at H
          exact absurd H (by simp)
      · rw [if_neg c10] at H
        exact absurd H (by simp)
    · rw [if_neg c9] at H
      exact absurd H (by simp)
end Go.Proofs.YtldmepofbkcmnaaDoor.Pr
