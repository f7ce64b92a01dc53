/- A part of what the claim of 'FnTblPart' leans on. -/
import Derived.Test.YtnednnnegofhkaaDoorFnTblPartP0
import Derived.Test.YtnednnnegofhkaaDoorFnTblPartP3
namespace Go.Proofs.YtnednnnegofhkaaDoor.Pr
open Go.RowKit Go.Proofs.YtnednnnegofhkaaDoorW.PrintWords Go.Proofs.YtnednnnegofhkaaDoorW.PrintLast Go.Proofs.YtnednnnegofhkaaDoorW.PrintMore
attribute [local go_sem] max2_int min2_int max_two min_two max_three min_three max_four min_four
set_option linter.unusedVariables false
set_option linter.unusedSimpArgs false
def spec_l20AnyText.f (k : Nat) (s0_0 : List Int) (s0_1 : Int) (a1 : Int) : Option (ByteArray × Int) := (spec_l20Text.f k s0_0 s0_1).bind fun bt165 => ((spec_l20Rd_pick.f k s0_0 bt165.2 a1).bind fun bt167 => (if bt167.1 > 0 then (some (bt165.1, bt167.2)) else ((spec_l20Rd_pick.f k s0_0 bt167.2 (wrap64 ((bt165.1.size : Int) + 1))).bind fun bt169 => (if 0 ≤ bt169.1 then (if bt169.1 ≤ (bt165.1.size : Int) then ((some (([(⟨#[32]⟩ : ByteArray), (⟨#[32, 32]⟩ : ByteArray), (⟨#[65]⟩ : ByteArray), (⟨#[49]⟩ : ByteArray), (⟨#[45]⟩ : ByteArray), (⟨#[0]⟩ : ByteArray), (⟨#[97, 98, 99, 100, 101, 102, 103, 104, 105, 106, 97, 98, 99, 100, 101, 102, 103, 104, 105, 106, 97, 98, 99, 100, 101, 102, 103, 104, 105, 106, 120]⟩ : ByteArray)] : List ByteArray) : List ByteArray)).bind fun y171 => ((spec_l20Rd_pick.f k s0_0 bt169.2 7).bind fun bt174 => (if 0 ≤ bt174.1 then (if bt174.1 < (y171.length : Int) then (if (bt165.1.extract 0 (bt169.1 : Int).toNat).size + (rdOf ByteArray.empty y171 bt174.1).size ≤ 9223372036854775807 then (if ((bt165.1.extract 0 (bt169.1 : Int).toNat) ++ (rdOf ByteArray.empty y171 bt174.1)).size + (bt165.1.extract (bt169.1 : Int).toNat bt165.1.size).size ≤ 9223372036854775807 then (some (((bt165.1.extract 0 (bt169.1 : Int).toNat) ++ (rdOf ByteArray.empty y171 bt174.1)) ++ (bt165.1.extract (bt169.1 : Int).toNat bt165.1.size), bt174.2)) else (none)) else (none)) else (none)) else (none)))) else (none)) else (none)))))
theorem spec_l20AnyText.mono : ∀ a0 a1 a2 k, LeO (spec_l20AnyText.f k a0 a1 a2) (spec_l20AnyText.f (k + 1) a0 a1 a2) := by
  intro a0 a1 a2 k
  unfold spec_l20AnyText.f
  repeat' first
      | (with_reducible exact spec_l20Rd_pick.mono _ _ _ _)
      | (with_reducible exact spec_l20Text.mono _ _ _)
      | (with_reducible exact LeO.refl _)
      | (with_reducible exact LeO.none _)
      | (with_reducible refine LeO.ite ?_ ?_)
      | (with_reducible refine LeO.bind ?_ (fun _ => ?_))
      | exact spec_l20Rd_pick.mono _ _ _ _
      | exact spec_l20Text.mono _ _ _
      | exact LeO.none _
      | refine LeO.ite ?_ ?_
      | refine LeO.bind ?_ (fun _ => ?_)
def spec_l20AnyText.T5 : Bool × List (List Nat × List Nat) := (true, [([], []), ([], []), ([0, 1], [0, 1]), ([], []), ([], []), ([4], [4]), ([3, 5], [3, 5]), ([6], [6]), ([2, 7], [2, 7]), ([], []), ([], []), ([9, 10], [9, 10]), ([8, 11], [8, 11]), ([12, 5, 0, 1, 2, 3, 4, 5, 6, 7, 8, 9, 10, 11, 12], [12])])
def spec_l20AnyText.B5 : List Nat := [0, 0, 3, 0, 0, 16, 56, 120, 255, 0, 0, 1536, 4095, 8191]
theorem spec_l20AnyText.tab5 : rtab .any (opsOf Tryd.f56 5) = spec_l20AnyText.T5 := by kernel_rfl
theorem spec_l20AnyText.bits5 : waitsOk spec_l20AnyText.T5.2 spec_l20AnyText.B5 = true := by kernel_rfl
abbrev m56_0 : Array Bool := #[false, false, false, false, false, false, false, false, false, false, false, false, false, false]
abbrev m56_1 : Array Bool := #[true, false, false, false, false, false, false, false, false, false, false, false, false, false]
abbrev m56_2 : Array Bool := #[true, true, false, false, false, false, false, false, false, false, false, false, false, false]
abbrev m56_3 : Array Bool := #[true, true, false, false, true, false, false, false, false, false, false, false, false, false]
abbrev m56_4 : Array Bool := #[true, true, false, false, true, false, false, false, false, true, false, false, false, false]
abbrev m56_5 : Array Bool := #[true, true, false, false, true, false, false, false, false, true, true, false, false, false]
abbrev qa56 := @Aside0.mk
set_option maxHeartbeats 8000000 in
set_option maxRecDepth 100000 in
theorem spec_l20AnyText.calls (k : Nat) (g : Nat) (s0_0 : List Int) (s0_1 : Int) (a1 : Int) (r1 : ByteArray) (r2 : Int) (w0 w : World) (hI : IsS71 w0 w g s0_0 s0_1) (hB : Below w0.heap.size w0 w) (h : spec_l20AnyText.f k s0_0 s0_1 a1 = some (r1, r2)) :
  Calls Tryd.prog 56 #[.pointer (some ⟨g, 0, none⟩), .int .i64 a1] w fun e w' => e = .returned (.string r1) ∧ IsS71 w0 w' g s0_0 r2 ∧ Below w0.heap.size w0 w' ∧ KeepBut w w' g none := by
 have HI0 := qa56 hI
 have HK := qa56 (KeepBut.refl w g none)
 have HL := qa56 hB.size
 clear hI
 have HW0 := qa56 hB.size
 have HB := qa56 hB
 clear hB
 have H := h
 unfold spec_l20AnyText.f at H
 clear h
 replace H := Option.bind_eq_some_iff.mp H
 obtain ⟨⟨aa, ar⟩, A30, H⟩ := H
 (try dsimp only at H)
 have A3 := qa56 A30
 clear A30
 replace H := Option.bind_eq_some_iff.mp H
 obtain ⟨⟨ap, aA⟩, A40, H⟩ := H
 (try dsimp only at H)
 have A4 := qa56 A40
 clear A40
 by_cases c5 : ap > 0
 ·rw [if_pos c5] at H
  have aS : decide (0 < ap) = true := decide_eq_true c5
  clear c5
  simp only [Option.some.injEq, Prod.mk.injEq] at H
  obtain ⟨rfl, rfl⟩ := H
  go_enter Tryd.func56, Tryd.ntmps56
  go_wp2_with (first | ((with_reducible refine gate_callee (f := 54) rfl ?_); refine goesL_ (some 8) rfl rfl Tryd.func54 (by kernel_rfl) rfl #[.pointer (some ⟨g, 0, none⟩)] rfl (by (try simp only [List.map_toArray, List.map_cons, List.map_nil]) <;> rfl) ?_; (with_reducible refine (spec_l20Text.calls k g s0_0 s0_1 aa ar w0 _ ?side1 ?side2 A3.out).mono ?_); (case side1 => repeat (first | (with_reducible first | exact HI0.out | apply IsS71.alloc | apply IsS71.drewN | apply IsS71.drew | apply IsS71.set_1) | exact HI0.out)); (case side2 => repeat (first | (with_reducible first | exact HB.out | apply below_alloc | apply pw_below_drewN | apply below_drew1 | refine below_set ?_ (IsS71.ge HI0.out)) | exact HB.out)); rintro e w6 ⟨rfl, hi, hb, hk⟩; refine ⟨_, rfl, ?_⟩; have n0_ := qa56 (KeepBut.trans (by repeat (first | (with_reducible first | exact HK.out | apply KeepBut.set_ | apply keep_drewN | apply keep_drew | apply keep_alloc) | exact HK.out)) hk (.inl rfl)); have n1_ := qa56 (hb); have n2_ := qa56 (hi); replace HK := n0_; replace HB := n1_; replace HI0 := n2_; clear n0_ n1_ n2_; (try clear hb hk hi)) | ((with_reducible refine gate_callee (f := 34) rfl ?_); refine goesL_ (some 11) rfl rfl Tryd.func34 (by kernel_rfl) rfl #[.pointer (some ⟨g, 0, none⟩), .int .i64 a1] rfl (by (try simp only [List.map_toArray, List.map_cons, List.map_nil]) <;> rfl) ?_; (with_reducible refine (spec_l20Rd_pick.calls k g s0_0 ar a1 ap aA w0 _ ?side1 ?side2 A4.out).mono ?_); (case side1 => repeat (first | (with_reducible first | exact HI0.out | apply IsS71.alloc | apply IsS71.drewN | apply IsS71.drew | apply IsS71.set_1) | exact HI0.out)); (case side2 => repeat (first | (with_reducible first | exact HB.out | apply below_alloc | apply pw_below_drewN | apply below_drew1 | refine below_set ?_ (IsS71.ge HI0.out)) | exact HB.out)); rintro e w7 ⟨rfl, hi, hb, hk⟩; refine ⟨_, rfl, ?_⟩; have n0_ := qa56 (KeepBut.trans (by repeat (first | (with_reducible first | exact HK.out | apply KeepBut.set_ | apply keep_drewN | apply keep_drew | apply keep_alloc) | exact HK.out)) hk (.inl rfl)); have n1_ := qa56 (hb); have n2_ := qa56 (hi); replace HK := n0_; replace HB := n1_; replace HI0 := n2_; clear n0_ n1_ n2_; (try clear hb hk hi)))
  go_ret
  exact ⟨by first | rfl | (simp [errW_none, errW_some] <;> rfl) | (simp [*, errW_none, errW_some] <;> rfl), by repeat (first | (with_reducible first | exact HI0.out | apply IsS71.alloc | apply IsS71.drewN | apply IsS71.drew | apply IsS71.set_1) | exact HI0.out), by repeat (first | (with_reducible first | exact HB.out | apply below_alloc | apply pw_below_drewN | apply below_drew1 | refine below_set ?_ (IsS71.ge HI0.out)) | exact HB.out), by repeat (first | (with_reducible first | exact HK.out | apply KeepBut.set_ | apply keep_drewN | apply keep_drew | apply keep_alloc) | exact HK.out)⟩
 ·rw [if_neg c5] at H
  have aS : decide (0 < ap) = false := decide_eq_false c5
  clear c5
  replace H := Option.bind_eq_some_iff.mp H
  obtain ⟨⟨ac, an⟩, A80, H⟩ := H
  (try dsimp only at H)
  have A8 := qa56 A80
  clear A80
  by_cases c9 : 0 ≤ ac
  ·rw [if_pos c9] at H
   have c9b0 := eq_true c9
   have c9b1 : decide (0 ≤ ac) = true := decide_eq_true c9
   clear c9
   by_cases c10 : ac ≤ (aa.size : Int)
   ·rw [if_pos c10] at H
    have al := eq_true c10
    have c10b1 : decide (ac ≤ (aa.size : Int)) = true := decide_eq_true c10
    clear c10
    obtain ⟨y171, ao⟩ : ∃ y_ : List ByteArray, y_ = (([(⟨#[32]⟩ : ByteArray), (⟨#[32, 32]⟩ : ByteArray), (⟨#[65]⟩ : ByteArray), (⟨#[49]⟩ : ByteArray), (⟨#[45]⟩ : ByteArray), (⟨#[0]⟩ : ByteArray), (⟨#[97, 98, 99, 100, 101, 102, 103, 104, 105, 106, 97, 98, 99, 100, 101, 102, 103, 104, 105, 106, 97, 98, 99, 100, 101, 102, 103, 104, 105, 106, 120]⟩ : ByteArray)] : List ByteArray)) := ⟨_, rfl⟩
    replace H : ((spec_l20Rd_pick.f k s0_0 an 7).bind fun bt174 => (if 0 ≤ bt174.1 then (if bt174.1 < (y171.length : Int) then (if (aa.extract 0 (ac : Int).toNat).size + (rdOf ByteArray.empty y171 bt174.1).size ≤ 9223372036854775807 then (if ((aa.extract 0 (ac : Int).toNat) ++ (rdOf ByteArray.empty y171 bt174.1)).size + (aa.extract (ac : Int).toNat aa.size).size ≤ 9223372036854775807 then (some (((aa.extract 0 (ac : Int).toNat) ++ (rdOf ByteArray.empty y171 bt174.1)) ++ (aa.extract (ac : Int).toNat aa.size), bt174.2)) else (none)) else (none)) else (none)) else (none))) = some (r1, r2) := by first | (rw [ao]; with_reducible exact H) | (have H2_ := (Option.bind_some _ _).symm.trans H; rw [ao]; with_reducible exact H2_) | (have H2_ := (Option.bind_some _ _).symm.trans H; with_reducible exact H2_) | with_reducible exact H | (rw [ao]; exact H) | exact H
    have av := qa56 ao
    clear ao
    replace H := Option.bind_eq_some_iff.mp H
    obtain ⟨⟨af, ay⟩, aG, H⟩ := H
    (try dsimp only at H)
    have A11 := qa56 aG
    clear aG
    by_cases c12 : 0 ≤ af
    ·rw [if_pos c12] at H
     have c12b0 : decide (0 ≤ af) = true := decide_eq_true c12
     clear c12
     by_cases c13 : af < (y171.length : Int)
     ·rw [if_pos c13] at H
      have c13b0 : decide (af < (y171.length : Int)) = true := decide_eq_true c13
      clear c13
      by_cases c14 : (aa.extract 0 (ac : Int).toNat).size + (rdOf ByteArray.empty y171 af).size ≤ 9223372036854775807
      ·rw [if_pos c14] at H
       have c14b0 := eq_true c14
       have c14b1 : decide ((aa.extract 0 (ac : Int).toNat).size + (rdOf ByteArray.empty y171 af).size ≤ 9223372036854775807) = true := decide_eq_true c14
       try have c14b2 : (9223372036854775807 < (aa.extract 0 (ac : Int).toNat).size + (rdOf ByteArray.empty y171 af).size) = False := eq_false (Nat.not_lt.2 c14)
       have c15b0 := eq_true (of_decide_eq_true (by first | (with_reducible assumption) | assumption) : 0 ≤ ac)
       have c16b0 := eq_true (of_decide_eq_true (by first | (with_reducible assumption) | assumption) : ac ≤ (aa.size : Int))
       by_cases c17 : ((aa.extract 0 (ac : Int).toNat) ++ (rdOf ByteArray.empty y171 af)).size + (aa.extract (ac : Int).toNat aa.size).size ≤ 9223372036854775807
       ·rw [if_pos c17] at H
        have c17b0 := eq_true c17
        have c17b1 : decide (((aa.extract 0 (ac : Int).toNat) ++ (rdOf ByteArray.empty y171 af)).size + (aa.extract (ac : Int).toNat aa.size).size ≤ 9223372036854775807) = true := decide_eq_true c17
        try have aM : (9223372036854775807 < ((aa.extract 0 (ac : Int).toNat) ++ (rdOf ByteArray.empty y171 af)).size + (aa.extract (ac : Int).toNat aa.size).size) = False := eq_false (Nat.not_lt.2 c17)
        (try have aK := aM)
        (try simp only [ByteArray.size_append, show (⟨#[32]⟩ : ByteArray).size = 1 from rfl] at aK)
        simp only [Option.some.injEq, Prod.mk.injEq] at H
        obtain ⟨rfl, rfl⟩ := H
        go_enter Tryd.func56, Tryd.ntmps56
        try go_wp2_with (first | ((with_reducible refine gate_callee (f := 54) rfl ?_); refine goesL_ (some 8) rfl rfl Tryd.func54 (by kernel_rfl) rfl #[.pointer (some ⟨g, 0, none⟩)] rfl (by (try simp only [List.map_toArray, List.map_cons, List.map_nil]) <;> rfl) ?_; (with_reducible refine (spec_l20Text.calls k g s0_0 s0_1 aa ar w0 _ ?side1 ?side2 A3.out).mono ?_); (case side1 => repeat (first | (with_reducible first | exact HI0.out | apply IsS71.alloc | apply IsS71.drewN | apply IsS71.drew | apply IsS71.set_1) | exact HI0.out)); (case side2 => repeat (first | (with_reducible first | exact HB.out | apply below_alloc | apply pw_below_drewN | apply below_drew1 | refine below_set ?_ (IsS71.ge HI0.out)) | exact HB.out)); rintro e w18 ⟨rfl, hi, hb, hk⟩; refine ⟨_, rfl, ?_⟩; have n0_ := qa56 (KeepBut.trans (by repeat (first | (with_reducible first | exact HK.out | apply KeepBut.set_ | apply keep_drewN | apply keep_drew | apply keep_alloc) | exact HK.out)) hk (.inl rfl)); have n1_ := qa56 (hb); have n2_ := qa56 (hi); replace HK := n0_; replace HB := n1_; replace HI0 := n2_; clear n0_ n1_ n2_; (try clear hb hk hi)) | ((with_reducible refine gate_callee (f := 34) rfl ?_); refine goesL_ (some 11) rfl rfl Tryd.func34 (by kernel_rfl) rfl #[.pointer (some ⟨g, 0, none⟩), .int .i64 a1] rfl (by (try simp only [List.map_toArray, List.map_cons, List.map_nil]) <;> rfl) ?_; (with_reducible refine (spec_l20Rd_pick.calls k g s0_0 ar a1 ap aA w0 _ ?side1 ?side2 A4.out).mono ?_); (case side1 => repeat (first | (with_reducible first | exact HI0.out | apply IsS71.alloc | apply IsS71.drewN | apply IsS71.drew | apply IsS71.set_1) | exact HI0.out)); (case side2 => repeat (first | (with_reducible first | exact HB.out | apply below_alloc | apply pw_below_drewN | apply below_drew1 | refine below_set ?_ (IsS71.ge HI0.out)) | exact HB.out)); rintro e w19 ⟨rfl, hi, hb, hk⟩; refine ⟨_, rfl, ?_⟩; have n0_ := qa56 (KeepBut.trans (by repeat (first | (with_reducible first | exact HK.out | apply KeepBut.set_ | apply keep_drewN | apply keep_drew | apply keep_alloc) | exact HK.out)) hk (.inl rfl)); have n1_ := qa56 (hb); have n2_ := qa56 (hi); replace HK := n0_; replace HB := n1_; replace HI0 := n2_; clear n0_ n1_ n2_; (try clear hb hk hi)) | ((with_reducible refine gate_callee (f := 34) rfl ?_); refine goesL_ (some 18) rfl rfl Tryd.func34 (by kernel_rfl) rfl #[.pointer (some ⟨g, 0, none⟩), .int .i64 (wrap64 ((aa.size : Int) + 1))] rfl (by (try simp only [List.map_toArray, List.map_cons, List.map_nil]) <;> rfl) ?_; (with_reducible refine (spec_l20Rd_pick.calls k g s0_0 aA (wrap64 ((aa.size : Int) + 1)) ac an w0 _ ?side1 ?side2 A8.out).mono ?_); (case side1 => repeat (first | (with_reducible first | exact HI0.out | apply IsS71.alloc | apply IsS71.drewN | apply IsS71.drew | apply IsS71.set_1) | exact HI0.out)); (case side2 => repeat (first | (with_reducible first | exact HB.out | apply below_alloc | apply pw_below_drewN | apply below_drew1 | refine below_set ?_ (IsS71.ge HI0.out)) | exact HB.out)); rintro e w20 ⟨rfl, hi, hb, hk⟩; refine ⟨_, rfl, ?_⟩; have n0_ := qa56 (KeepBut.trans (by repeat (first | (with_reducible first | exact HK.out | apply KeepBut.set_ | apply keep_drewN | apply keep_drew | apply keep_alloc) | exact HK.out)) hk (.inl rfl)); have n1_ := qa56 (hb); have n2_ := qa56 (hi); replace HK := n0_; replace HB := n1_; replace HI0 := n2_; clear n0_ n1_ n2_; (try clear hb hk hi)))
        have aL : (0 ≤ (af : Int)) = True := eq_true (of_decide_eq_true (by first | (with_reducible assumption) | assumption))
        have qi176 : (af < (y171.length : Int)) = True := eq_true (of_decide_eq_true (by first | (with_reducible assumption) | assumption))
        have n0_ := qa56 (IsS71.drew HI0.out)
        have n1_ := qa56 (keep_drew HK.out)
        have n2_ := qa56 (below_drew1 HB.out)
        replace HI0 := n0_
        replace HK := n1_
        replace HB := n2_
        clear n0_ n1_ n2_
        refine start_ (n := 14) (S := fun w' => True) (ds := []) m56_0 (by kernel_rfl) rfl rfl trivial (fun hHeld => ?_); refine with_tabW spec_l20AnyText.tab5 spec_l20AnyText.bits5 (fun HT_ HW_ => ?_)
        generalize w20.drew = w21 at HI0 HK HB hHeld ⊢
        refine pure_ (i := 0) (N := some 19) (v := ?_) (a' := ?_) m56_1 rfl rfl (any_of HT_.out (by kernel_rfl)) (fun _ _ _ h => h) (Or.inl ⟨by rfl, ?_⟩) ?_ ?_
        rotate_left
        ·intro w'
         go_simp
         with_reducible rfl
        rotate_left
        ·simp only [Act.put, qa_, qb_, qc_, i64_w, i32_w]
         rfl
        refine pure_ (i := 1) (N := some 20) (v := ?_) (a' := ?_) m56_2 rfl rfl (any_of HT_.out (by kernel_rfl)) (fun _ _ _ h => h) (Or.inl ⟨by rfl, ?_⟩) ?_ ?_
        rotate_left
        ·intro w'
         go_simp
         with_reducible rfl
        rotate_left
        ·simp only [Act.put, qa_, qb_, qc_, i64_w, i32_w]
         rfl
        refine pure_ (i := 4) (N := some 23) (v := ?_) (a' := ?_) m56_3 rfl rfl (any_of HT_.out (by kernel_rfl)) (fun _ _ _ h => h) (Or.inl ⟨by rfl, ?_⟩) ?_ ?_
        rotate_left
        ·intro w'
         go_simp
         with_reducible rfl
        rotate_left
        ·simp only [Act.put, qa_, qb_, qc_, i64_w, i32_w]
         rfl
        refine pure_ (i := 9) (N := some 28) (v := ?_) (a' := ?_) m56_4 rfl rfl (any_of HT_.out (by kernel_rfl)) (fun _ _ _ h => h) (Or.inl ⟨by rfl, ?_⟩) ?_ ?_
        rotate_left
        ·intro w'
         go_simp
         with_reducible rfl
        rotate_left
        ·simp only [Act.put, qa_, qb_, qc_, i64_w, i32_w]
         rfl
        refine pure_ (i := 10) (N := some 29) (v := ?_) (a' := ?_) m56_5 rfl rfl (any_of HT_.out (by kernel_rfl)) (fun _ _ _ h => h) (Or.inl ⟨by rfl, ?_⟩) ?_ ?_
        rotate_left
        ·intro w'
         go_simp
         with_reducible rfl
        rotate_left
        ·simp only [Act.put, qa_, qb_, qc_, i64_w, i32_w]
         rfl
        refine inv_at [2, 3, 5, 6, 7, 8, 11, 12, 13] (fun a0_ b a w' => ∃ (ag : Value) (ad : Addr) (m6_ : Value), a = putSel a0_ b [(2, 21, .string (aa.extract 0 (ac : Int).toNat)), (3, 22, ag), (5, 24, .int .i64 af), (6, 25, m6_), (7, 26, .string (rdOf ByteArray.empty y171 af)), (8, 27, .string ((aa.extract 0 (ac : Int).toNat) ++ (rdOf ByteArray.empty y171 af))), (11, 30, .string (aa.extract (ac : Int).toNat aa.size)), (12, 31, .string (((aa.extract 0 (ac : Int).toNat) ++ (rdOf ByteArray.empty y171 af)) ++ (aa.extract (ac : Int).toNat aa.size))), (13, 4, .string (((aa.extract 0 (ac : Int).toNat) ++ (rdOf ByteArray.empty y171 af)) ++ (aa.extract (ac : Int).toNat aa.size)))] ∧ (b 5 = false → IsS71 w0 w' g s0_0 an) ∧ (KeepBut w w' g none) ∧ (Below w0.heap.size w0 w') ∧ (b 3 = true → Kd.R Kd.string 9 w' w.heap.size (fun _ => True) ag y171) ∧ (b 3 = true → ∃ c_, (ag : Value) = .slice (some ad) y171.length c_) ∧ (b 5 = true → IsS71 w0 w' g s0_0 ay) ∧ (b 6 = true → (m6_ : Value) = .pointer (some (ad.add (af).toNat)))) HT_.out HW_.out (by kernel_rfl) (by kernel_rfl) ?_ ?_ ?_
        ·exact ⟨.bool false, ⟨0, 0, none⟩, .bool false, by simp only [putSel, Bool.false_eq_true, if_false], fun _ => HI0.out, HK.out, HB.out, fun h_ => absurd h_ (by decide), fun h_ => absurd h_ (by decide), fun h_ => absurd h_ (by decide), fun h_ => absurd h_ (by decide)⟩
        ·skip
         clear HB HI0 HK
         refine steps_cons ?_ ?_
         ·rintro b a w' ⟨ag, ad, m6_, ha, aj, Q_HK, Q_HB, ae, Q_HA_HO173, ab, ah⟩ hb_ hon hoff
          refine ⟨_, rfl, fun K hK => ?_⟩
          have e19 : a.tmps[19]? = some (.string aa) := by rw [ha]; exact (putSel_off rfl).trans rfl
          have e20 : a.tmps[20]? = some (.int .i64 ac) := by rw [ha]; exact (putSel_off rfl).trans rfl
          replace ha := qa56 ha
          have HK := qa56 Q_HK
          have HB := qa56 Q_HB
          refine value_ (w1 := w') (v := .string (aa.extract 0 (ac : Int).toNat)) (by rfl) rfl ?_ ?_
          ·go_simp
           (try simp only [i64_w])
           try rfl
           try ((try have am := of_eq_true al); simp only [ByteArray.size_append, ByteArray.size_extract] at *; omega)
          refine hK.out _ _ ⟨ag, ad, m6_, (by rw [ha.out]; exact putSel_upk 0 hb_ rfl rfl rfl), aj, Q_HK, Q_HB, ae, Q_HA_HO173, ab, ah⟩
         refine steps_cons ?_ ?_
         ·rintro b a w' ⟨ag, ad, m6_, ha, aj, Q_HK, Q_HB, ae, Q_HA_HO173, ab, ah⟩ hb_ hon hoff
          refine ⟨_, rfl, fun K hK => ?_⟩
          replace ha := qa56 ha
          have HK := qa56 Q_HK
          have HB := qa56 Q_HB
          refine Kd.R_lit_step Kd.string _ 9 ?hg (N := 22) ?hd (xs := ([(⟨#[32]⟩ : ByteArray), (⟨#[32, 32]⟩ : ByteArray), (⟨#[65]⟩ : ByteArray), (⟨#[49]⟩ : ByteArray), (⟨#[45]⟩ : ByteArray), (⟨#[0]⟩ : ByteArray), (⟨#[97, 98, 99, 100, 101, 102, 103, 104, 105, 106, 97, 98, 99, 100, 101, 102, 103, 104, 105, 106, 97, 98, 99, 100, 101, 102, 103, 104, 105, 106, 120]⟩ : ByteArray)] : List ByteArray)) (inner := [.string (⟨#[32]⟩ : ByteArray), .string (⟨#[32, 32]⟩ : ByteArray), .string (⟨#[65]⟩ : ByteArray), .string (⟨#[49]⟩ : ByteArray), .string (⟨#[45]⟩ : ByteArray), .string (⟨#[0]⟩ : ByteArray), .string (⟨#[97, 98, 99, 100, 101, 102, 103, 104, 105, 106, 97, 98, 99, 100, 101, 102, 103, 104, 105, 106, 97, 98, 99, 100, 101, 102, 103, 104, 105, 106, 120]⟩ : ByteArray)]) (ok := fun _ => True) (okp := fun _ => True) ?hr ?hp (fun _ hk => hk) trivial (Below.refl _ _) (Nat.le_refl _) (by simp) ?_; (case hd => rfl); (case hg => rfl); (case hr => go_simp <;> rfl); (case hp => exact (Reps.one (show Kd.M Kd.string _ _ _ (⟨#[32]⟩ : ByteArray) [.string (⟨#[32]⟩ : ByteArray)] from rfl) (Reps.one (show Kd.M Kd.string _ _ _ (⟨#[32, 32]⟩ : ByteArray) [.string (⟨#[32, 32]⟩ : ByteArray)] from rfl) (Reps.one (show Kd.M Kd.string _ _ _ (⟨#[65]⟩ : ByteArray) [.string (⟨#[65]⟩ : ByteArray)] from rfl) (Reps.one (show Kd.M Kd.string _ _ _ (⟨#[49]⟩ : ByteArray) [.string (⟨#[49]⟩ : ByteArray)] from rfl) (Reps.one (show Kd.M Kd.string _ _ _ (⟨#[45]⟩ : ByteArray) [.string (⟨#[45]⟩ : ByteArray)] from rfl) (Reps.one (show Kd.M Kd.string _ _ _ (⟨#[0]⟩ : ByteArray) [.string (⟨#[0]⟩ : ByteArray)] from rfl) (Reps.one (show Kd.M Kd.string _ _ _ (⟨#[97, 98, 99, 100, 101, 102, 103, 104, 105, 106, 97, 98, 99, 100, 101, 102, 103, 104, 105, 106, 97, 98, 99, 100, 101, 102, 103, 104, 105, 106, 120]⟩ : ByteArray) [.string (⟨#[97, 98, 99, 100, 101, 102, 103, 104, 105, 106, 97, 98, 99, 100, 101, 102, 103, 104, 105, 106, 97, 98, 99, 100, 101, 102, 103, 104, 105, 106, 120]⟩ : ByteArray)] from rfl) (Reps.none _ _)))))))))
          intro ag w22 aq hb hg_ hnew_
          clear hg_ hnew_
          (first | rw [← av.out] at aq | (simp only [Int.reduceToNat] at aq; rw [← av.out] at aq))
          have n0_ := qa56 (Kd.R_lower aq (keep_size (w := w) (g := g) (row := none) (by repeat (first | (with_reducible first | exact HK.out | apply KeepBut.set_ | apply keep_drewN | apply keep_drew | apply keep_alloc) | exact HK.out))))
          have n2_ := qa56 (KeepBut.trans (by repeat (first | (with_reducible first | exact HK.out | apply KeepBut.set_ | apply keep_drewN | apply keep_drew | apply keep_alloc) | exact HK.out)) (KeepBut.of_below hb g none) (.inl rfl))
          have n3_ := qa56 (below_step (by repeat (first | (with_reducible first | exact HB.out | apply below_alloc | apply pw_below_drewN | apply below_drew1) | exact HB.out)) hb)
          have aN := fun (h0_ : b 5 = false) => (show IsS71 w0 w22 g s0_0 an from by first | exact (IsS71.below (by repeat (first | (with_reducible first | exact (aj h0_) | apply IsS71.alloc | apply IsS71.drewN | apply IsS71.drew | apply IsS71.set_1) | exact (aj h0_))) hb))
          have ax := fun (h0_ : b 5 = true) => (show IsS71 w0 w22 g s0_0 ay from by first | exact (IsS71.below (by repeat (first | (with_reducible first | exact (ab h0_) | apply IsS71.alloc | apply IsS71.drewN | apply IsS71.drew | apply IsS71.set_1) | exact (ab h0_))) hb))
          have ak := n0_
          replace HK := n2_
          replace HB := n3_
          clear n0_ n2_ n3_
          clear hb aq
          obtain ⟨Ao24, aQ, aP⟩ := Kd.R_slice ak.out
          subst aP
          obtain ⟨aD, aO, _⟩ := Kd.at_string (Kd.R_reads' ak.out).2.2 0 (by decide) (by rw [av.out]; simp)
          cases aO
          refine hK.out _ _ ⟨.slice (some aD) y171.length aQ, aD, m6_, (by rw [ha.out]; exact putSel_upk 1 hb_ rfl rfl rfl), aN, (by repeat (first | (with_reducible first | exact HK.out | apply KeepBut.set_ | apply keep_drewN | apply keep_drew | apply keep_alloc) | exact HK.out)), (by repeat (first | (with_reducible first | exact HB.out | apply below_alloc | apply pw_below_drewN | apply below_drew1) | exact HB.out)), fun _ => (by (with_reducible repeat (first | apply Kd.R_alloc | apply Kd.R_drewN | apply Kd.R_drew)); exact ak.out), fun _ => ⟨_, rfl⟩, ax, fun h0_ => absurd ((hoff 6 (by kernel_rfl)).symm.trans h0_) (by decide)⟩
         refine steps_cons ?_ ?_
         ·rintro b a w' ⟨ag, ad, m6_, ha, aj, Q_HK, Q_HB, ae, Q_HA_HO173, ab, ah⟩ hb_ hon hoff
          refine ⟨_, rfl, fun K hK => ?_⟩
          have e23 : a.tmps[23]? = some (.pointer (some ⟨g, 0, none⟩)) := by rw [ha]; exact (putSel_off rfl).trans rfl
          replace ha := qa56 ha
          have HI0 := qa56 (aj hb_)
          have HK := qa56 Q_HK
          have HB := qa56 Q_HB
          refine goes_ Tryd.func34 (by kernel_rfl) rfl #[.pointer (some ⟨g, 0, none⟩), .int .i64 7] (by rfl) rfl rfl (by first | (simp only [List.map_toArray, List.map_cons, List.map_nil, Act.eval, Array.getD_eq_getD_getElem?, Option.getD_some, e23]; done) | (simp only [List.map_toArray, List.map_cons, List.map_nil, Act.eval, Array.getD_eq_getD_getElem?, Option.getD_some, e23]; rfl)) ?_
          with_reducible refine (spec_l20Rd_pick.calls k g s0_0 an 7 af ay w0 _ ?side1 ?side2 A11.out).mono ?_
          (case side1 => repeat (first | (with_reducible first | exact HI0.out | apply IsS71.alloc | apply IsS71.drewN | apply IsS71.drew | apply IsS71.set_1) | exact HI0.out))
          (case side2 => repeat (first | (with_reducible first | exact HB.out | apply below_alloc | apply pw_below_drewN | apply below_drew1 | refine below_set ?_ (IsS71.ge HI0.out)) | exact HB.out))
          rintro e w22 ⟨rfl, hi, hb, hk⟩
          refine ⟨_, rfl, ?_⟩
          have n0_ := qa56 (KeepBut.trans (by repeat (first | (with_reducible first | exact HK.out | apply KeepBut.set_ | apply keep_drewN | apply keep_drew | apply keep_alloc) | exact HK.out)) hk (.inl rfl))
          have n1_ := qa56 (hb)
          have n2_ := qa56 (hi)
          have aF := fun (h0_ : b 3 = true) => (show Kd.R Kd.string 9 w22 w.heap.size (fun _ => True) ag y171 from by first | exact (Kd.R_mono (Kd.R_keep (IsS71.apart (show IsS71 w0 _ g s0_0 an from by repeat (first | (with_reducible first | exact HI0.out | apply IsS71.alloc | apply IsS71.drewN | apply IsS71.drew | apply IsS71.set_1) | exact HI0.out)) (by (with_reducible repeat (first | apply Kd.R_alloc | apply Kd.R_drewN | apply Kd.R_drew)); exact (ae h0_)) (by decide)) hk (fun _ h => h.2)) (fun _ h => h.1)) | exact Kd.R_mono (Kd.R_mono (Kd.R_keep (IsS71.apart (show IsS71 w0 _ g s0_0 an from by repeat (first | (with_reducible first | exact HI0.out | apply IsS71.alloc | apply IsS71.drewN | apply IsS71.drew | apply IsS71.set_1) | exact HI0.out)) (by (with_reducible repeat (first | apply Kd.R_alloc | apply Kd.R_drewN | apply Kd.R_drew)); exact (ae h0_)) (by decide)) hk (fun _ h => h.2)) (fun _ h => h.1)) (fun _ h_ => by first | trivial | exact h_ | exact h_.1))
          replace HK := n0_
          replace HB := n1_
          replace HI0 := n2_
          clear n0_ n1_ n2_
          (try clear hb)
          (try clear hb2)
          (try clear hk)
          (try clear hi)
          refine hK.out _ _ ⟨ag, ad, m6_, (by rw [ha.out]; exact putSel_upk 2 hb_ rfl rfl rfl), fun h0_ => absurd ((up_self b 5).symm.trans h0_) (by decide), (by repeat (first | (with_reducible first | exact HK.out | apply KeepBut.set_ | apply keep_drewN | apply keep_drew | apply keep_alloc) | exact HK.out)), (by repeat (first | (with_reducible first | exact HB.out | apply below_alloc | apply pw_below_drewN | apply below_drew1 | refine below_set ?_ (IsS71.ge HI0.out)) | exact HB.out)), aF, Q_HA_HO173, fun _ => (by repeat (first | (with_reducible first | exact HI0.out | apply IsS71.alloc | apply IsS71.drewN | apply IsS71.drew | apply IsS71.set_1) | exact HI0.out)), fun h0_ => absurd ((hoff 6 (by kernel_rfl)).symm.trans h0_) (by decide)⟩
         refine steps_cons ?_ ?_
         ·rintro b a w' ⟨ag, ad, m6_, ha, aj, Q_HK, Q_HB, ae, Q_HA_HO173, ab, ah⟩ hb_ hon hoff
          refine ⟨_, rfl, fun K hK => ?_⟩
          have e22 : a.tmps[22]? = some (ag) := by rw [ha]; exact putSel_on (e := (3, 22, ag)) 1 rfl rfl (hon 3 (by kernel_rfl)) rfl
          have e24 : a.tmps[24]? = some (.int .i64 af) := by rw [ha]; exact putSel_on (e := (5, 24, .int .i64 af)) 2 rfl rfl (hon 5 (by kernel_rfl)) rfl
          replace ha := qa56 ha
          have HK := qa56 Q_HK
          have HB := qa56 Q_HB
          have ak := qa56 (ae (hon 3 (by kernel_rfl)))
          have ai := qa56 (Q_HA_HO173 (hon 3 (by kernel_rfl)))
          have HI0 := qa56 (ab (hon 5 (by kernel_rfl)))
          obtain ⟨c_, hv_⟩ := ai.out
          rw [hv_] at e22
          refine value_ (w1 := w') (v := .pointer (some (ad.add (af).toNat))) (by rfl) rfl ?_ ?_
          ·go_simp
           (try simp only [i64_w])
           try rfl
           try ((try have am := of_eq_true al); simp only [ByteArray.size_append, ByteArray.size_extract] at *; omega)
          refine hK.out _ _ ⟨ag, ad, (.pointer (some (ad.add (af).toNat))), (by rw [ha.out]; exact putSel_upk 3 hb_ rfl rfl rfl), fun h0_ => absurd ((hon 5 (by kernel_rfl)).symm.trans h0_) (by decide), Q_HK, Q_HB, ae, Q_HA_HO173, ab, fun _ => rfl⟩
         refine steps_cons ?_ ?_
         ·rintro b a w' ⟨ag, ad, m6_, ha, aj, Q_HK, Q_HB, ae, Q_HA_HO173, ab, ah⟩ hb_ hon hoff
          refine ⟨_, rfl, fun K hK => ?_⟩
          have e25 : a.tmps[25]? = some (m6_) := by rw [ha]; exact putSel_on (e := (6, 25, m6_)) 3 rfl rfl (hon 6 (by kernel_rfl)) rfl
          rw [ah (hon 6 (by kernel_rfl))] at e25
          replace ha := qa56 ha
          have HK := qa56 Q_HK
          have HB := qa56 Q_HB
          have ak := qa56 (ae (hon 3 (by kernel_rfl)))
          have ai := qa56 (Q_HA_HO173 (hon 3 (by kernel_rfl)))
          have HI0 := qa56 (ab (hon 5 (by kernel_rfl)))
          obtain ⟨c_, hv_⟩ := ai.out
          have hF_ := ak.out
          rw [hv_] at hF_
          obtain ⟨ad_, ea_, hx_⟩ := Kd.at_string (Kd.R_reads' hF_).2.2 af (of_eq_true aL) (of_eq_true qi176)
          cases ea_
          refine value_ (w1 := w') (v := .string (rdOf ByteArray.empty y171 af)) (by rfl) rfl ?_ ?_
          ·go_simp
           (try simp only [i64_w])
           try rfl
           try ((try have am := of_eq_true al); simp only [ByteArray.size_append, ByteArray.size_extract] at *; omega)
          refine hK.out _ _ ⟨ag, ad, m6_, (by rw [ha.out]; exact putSel_upk 4 hb_ rfl rfl rfl), fun h0_ => absurd ((hon 5 (by kernel_rfl)).symm.trans h0_) (by decide), Q_HK, Q_HB, ae, Q_HA_HO173, ab, ah⟩
         refine steps_cons ?_ ?_
         ·rintro b a w' ⟨ag, ad, m6_, ha, aj, Q_HK, Q_HB, ae, Q_HA_HO173, ab, ah⟩ hb_ hon hoff
          refine ⟨_, rfl, fun K hK => ?_⟩
          have e21 : a.tmps[21]? = some (.string (aa.extract 0 (ac : Int).toNat)) := by rw [ha]; exact putSel_on (e := (2, 21, .string (aa.extract 0 (ac : Int).toNat))) 0 rfl rfl (hon 2 (by kernel_rfl)) rfl
          have e26 : a.tmps[26]? = some (.string (rdOf ByteArray.empty y171 af)) := by rw [ha]; exact putSel_on (e := (7, 26, .string (rdOf ByteArray.empty y171 af))) 4 rfl rfl (hon 7 (by kernel_rfl)) rfl
          replace ha := qa56 ha
          have HK := qa56 Q_HK
          have HB := qa56 Q_HB
          have ak := qa56 (ae (hon 3 (by kernel_rfl)))
          have ai := qa56 (Q_HA_HO173 (hon 3 (by kernel_rfl)))
          have HI0 := qa56 (ab (hon 5 (by kernel_rfl)))
          refine value_ (w1 := w') (v := .string ((aa.extract 0 (ac : Int).toNat) ++ (rdOf ByteArray.empty y171 af))) (by rfl) rfl ?_ ?_
          ·go_simp
           (try simp only [i64_w])
           try rfl
           try ((try have am := of_eq_true al); simp only [ByteArray.size_append, ByteArray.size_extract] at *; omega)
          refine hK.out _ _ ⟨ag, ad, m6_, (by rw [ha.out]; exact putSel_upk 5 hb_ rfl rfl rfl), fun h0_ => absurd ((hon 5 (by kernel_rfl)).symm.trans h0_) (by decide), Q_HK, Q_HB, ae, Q_HA_HO173, ab, ah⟩
         refine steps_cons ?_ ?_
         ·rintro b a w' ⟨ag, ad, m6_, ha, aj, Q_HK, Q_HB, ae, Q_HA_HO173, ab, ah⟩ hb_ hon hoff
          refine ⟨_, rfl, fun K hK => ?_⟩
          have e28 : a.tmps[28]? = some (.string aa) := by rw [ha]; exact (putSel_off rfl).trans rfl
          have e29 : a.tmps[29]? = some (.int .i64 ac) := by rw [ha]; exact (putSel_off rfl).trans rfl
          replace ha := qa56 ha
          have HK := qa56 Q_HK
          have HB := qa56 Q_HB
          refine value_ (w1 := w') (v := .string (aa.extract (ac : Int).toNat aa.size)) (by rfl) rfl ?_ ?_
          ·go_simp
           (try simp only [i64_w])
           try rfl
           try ((try have am := of_eq_true al); simp only [ByteArray.size_append, ByteArray.size_extract] at *; omega)
          refine hK.out _ _ ⟨ag, ad, m6_, (by rw [ha.out]; exact putSel_upk 6 hb_ rfl rfl rfl), aj, Q_HK, Q_HB, ae, Q_HA_HO173, ab, ah⟩
         refine steps_cons ?_ ?_
         ·rintro b a w' ⟨ag, ad, m6_, ha, aj, Q_HK, Q_HB, ae, Q_HA_HO173, ab, ah⟩ hb_ hon hoff
          refine ⟨_, rfl, fun K hK => ?_⟩
          have e27 : a.tmps[27]? = some (.string ((aa.extract 0 (ac : Int).toNat) ++ (rdOf ByteArray.empty y171 af))) := by rw [ha]; exact putSel_on (e := (8, 27, .string ((aa.extract 0 (ac : Int).toNat) ++ (rdOf ByteArray.empty y171 af)))) 5 rfl rfl (hon 8 (by kernel_rfl)) rfl
          have e30 : a.tmps[30]? = some (.string (aa.extract (ac : Int).toNat aa.size)) := by rw [ha]; exact putSel_on (e := (11, 30, .string (aa.extract (ac : Int).toNat aa.size))) 6 rfl rfl (hon 11 (by kernel_rfl)) rfl
          replace ha := qa56 ha
          have HK := qa56 Q_HK
          have HB := qa56 Q_HB
          have ak := qa56 (ae (hon 3 (by kernel_rfl)))
          have ai := qa56 (Q_HA_HO173 (hon 3 (by kernel_rfl)))
          have HI0 := qa56 (ab (hon 5 (by kernel_rfl)))
          refine value_ (w1 := w') (v := .string (((aa.extract 0 (ac : Int).toNat) ++ (rdOf ByteArray.empty y171 af)) ++ (aa.extract (ac : Int).toNat aa.size))) (by rfl) rfl ?_ ?_
          ·go_simp
           (try simp only [i64_w])
           try rfl
           try ((try have am := of_eq_true al); simp only [ByteArray.size_append, ByteArray.size_extract] at *; omega)
          refine hK.out _ _ ⟨ag, ad, m6_, (by rw [ha.out]; exact putSel_upk 7 hb_ rfl rfl rfl), fun h0_ => absurd ((hon 5 (by kernel_rfl)).symm.trans h0_) (by decide), Q_HK, Q_HB, ae, Q_HA_HO173, ab, ah⟩
         refine steps_cons ?_ ?_
         ·rintro b a w' ⟨ag, ad, m6_, ha, aj, Q_HK, Q_HB, ae, Q_HA_HO173, ab, ah⟩ hb_ hon hoff
          refine ⟨_, rfl, fun K hK => ?_⟩
          have e31 : a.tmps[31]? = some (.string (((aa.extract 0 (ac : Int).toNat) ++ (rdOf ByteArray.empty y171 af)) ++ (aa.extract (ac : Int).toNat aa.size))) := by rw [ha]; exact putSel_on (e := (12, 31, .string (((aa.extract 0 (ac : Int).toNat) ++ (rdOf ByteArray.empty y171 af)) ++ (aa.extract (ac : Int).toNat aa.size)))) 7 rfl rfl (hon 12 (by kernel_rfl)) rfl
          replace ha := qa56 ha
          have HK := qa56 Q_HK
          have HB := qa56 Q_HB
          have ak := qa56 (ae (hon 3 (by kernel_rfl)))
          have ai := qa56 (Q_HA_HO173 (hon 3 (by kernel_rfl)))
          have HI0 := qa56 (ab (hon 5 (by kernel_rfl)))
          refine value_ (w1 := w') (v := .string (((aa.extract 0 (ac : Int).toNat) ++ (rdOf ByteArray.empty y171 af)) ++ (aa.extract (ac : Int).toNat aa.size))) (by rfl) rfl ?_ ?_
          ·go_simp
           (try simp only [i64_w])
           try rfl
           try ((try have am := of_eq_true al); simp only [ByteArray.size_append, ByteArray.size_extract] at *; omega)
          refine hK.out _ _ ⟨ag, ad, m6_, (by rw [ha.out]; exact putSel_upk 8 hb_ rfl rfl rfl), fun h0_ => absurd ((hon 5 (by kernel_rfl)).symm.trans h0_) (by decide), Q_HK, Q_HB, ae, Q_HA_HO173, ab, ah⟩
         exact steps_nil
        rintro b a w26 hall ⟨ag, ad, m6_, ha, aj, Q_HK, Q_HB, ae, Q_HA_HO173, ab, ah⟩
        clear HB HI0 HK
        have aJ := hall 2 (by kernel_rfl)
        have au := hall 3 (by kernel_rfl)
        have az := hall 5 (by kernel_rfl)
        have aw := hall 6 (by kernel_rfl)
        have aI := hall 7 (by kernel_rfl)
        have aH := hall 8 (by kernel_rfl)
        have aB := hall 11 (by kernel_rfl)
        have aE := hall 12 (by kernel_rfl)
        have aC := hall 13 (by kernel_rfl)
        subst ha
        obtain rfl := ah aw
        simp only [putSel, aJ, au, az, aw, aI, aH, aB, aE, aC, if_true, Act.put, qa_, qb_, qc_]
        clear aj
        have HK := qa56 Q_HK
        clear Q_HK
        have HB := qa56 Q_HB
        clear Q_HB
        have ak := qa56 (ae au)
        clear ae
        have ai := qa56 (Q_HA_HO173 au)
        clear Q_HA_HO173
        have HI0 := qa56 (ab az)
        clear ab
        clear hall aJ au az aw aI aH aB aE aC
        obtain ⟨co27, aR⟩ := ai.out
        clear ai
        subst aR
        try go_wp2
        go_ret
        exact ⟨by first | rfl | (simp [errW_none, errW_some] <;> rfl) | (simp [*, errW_none, errW_some] <;> rfl), by repeat (first | (with_reducible first | exact HI0.out | apply IsS71.alloc | apply IsS71.drewN | apply IsS71.drew | apply IsS71.set_1) | exact HI0.out), by repeat (first | (with_reducible first | exact HB.out | apply below_alloc | apply pw_below_drewN | apply below_drew1 | refine below_set ?_ (IsS71.ge HI0.out)) | exact HB.out), by repeat (first | (with_reducible first | exact HK.out | apply KeepBut.set_ | apply keep_drewN | apply keep_drew | apply keep_alloc) | exact HK.out)⟩
       ·rw [if_neg c17] at H
        exact absurd H (by simp)
      ·rw [if_neg c14] at H
       exact absurd H (by simp)
     ·rw [if_neg c13] at H
      exact absurd H (by simp)
    ·rw [if_neg c12] at H
     exact absurd H (by simp)
   ·rw [if_neg c10] at H
    exact absurd H (by simp)
  ·rw [if_neg c9] at H
   exact absurd H (by simp)
end Go.Proofs.YtnednnnegofhkaaDoor.Pr
