/- A part of what the claim of 'FnCellOk' leans on. -/
import Derived.Test.YtldmepofbkcmnaaDoorFnCellOkPr0
import Derived.Test.YtldmepofbkcmnaaDoorFnCellOkPr38
namespace Go.Proofs.YtldmepofbkcmnaaDoor.Pr
open Go.RowKit Go.Proofs.YtldmepofbkcmnaaDoorW.PrintWords Go.Proofs.YtldmepofbkcmnaaDoorW.PrintLast Go.Proofs.YtldmepofbkcmnaaDoorW.PrintMore
attribute [local go_sem] max2_int min2_int max_two min_two max_three min_three max_four min_four
set_option linter.unusedVariables false
set_option linter.unusedSimpArgs false
def spec_l20Text.l0 : Nat → List ByteArray → ByteArray → Int → List Int → Int → Option (ByteArray × Int)
  | 0, _, _, _, _, _ => none
  | k + 1, x3, x4, x5, x1000, x1001 => if x5 > 0 then ((spec_l20Rd_pick.f k x1000 x1001 (x3.length : Int)).bind fun bt109 => (if 0 ≤ bt109.1 then (if bt109.1 < (x3.length : Int) then (if x4.toList = ([] : List UInt8) then (spec_l20Text.l0 k x3 (rdOf ByteArray.empty x3 bt109.1) (wrap64 (x5 - 1)) x1000 bt109.2) else (if (wrap64 ((wrap64 ((x4.size : Int) + 1)) + ((rdOf ByteArray.empty x3 bt109.1).size : Int))) ≤ 30 then (if x4.size + 1 ≤ 9223372036854775807 then (if (x4 ++ (⟨#[32]⟩ : ByteArray)).size + (rdOf ByteArray.empty x3 bt109.1).size ≤ 9223372036854775807 then (spec_l20Text.l0 k x3 ((x4 ++ (⟨#[32]⟩ : ByteArray)) ++ (rdOf ByteArray.empty x3 bt109.1)) (wrap64 (x5 - 1)) x1000 bt109.2) else (none)) else (none)) else (spec_l20Text.l0 k x3 x4 (wrap64 (x5 - 1)) x1000 bt109.2))) else (none)) else (none))) else (some (x4, x1001))
def spec_l20Text.f (k : Nat) (s0_0 : List Int) (s0_1 : Int) : Option (ByteArray × Int) := (spec_l20Rd_pick.f k s0_0 s0_1 6).bind fun bt107 => (spec_l20Text.l0 k (([(⟨#[97]⟩ : ByteArray), (⟨#[97, 110]⟩ : ByteArray), (⟨#[116, 104, 101]⟩ : ByteArray), (⟨#[111, 118, 101, 114]⟩ : ByteArray), (⟨#[117, 110, 100, 101, 114]⟩ : ByteArray), (⟨#[109, 101, 97, 100, 111, 119]⟩ : ByteArray), (⟨#[108, 105, 103, 104, 116, 104, 111, 117, 115, 101]⟩ : ByteArray)] : List ByteArray)) (⟨#[]⟩ : ByteArray) bt107.1 s0_0 bt107.2)
theorem spec_l20Text.mono_l : ∀ k, (∀ y0 y1 y2 y3 y4, LeO (spec_l20Text.l0 k y0 y1 y2 y3 y4) (spec_l20Text.l0 (k + 1) y0 y1 y2 y3 y4))
  | 0 => fun _ _ _ _ _ r h => by simp [spec_l20Text.l0] at h
  | k + 1 => by
    have ih0 := spec_l20Text.mono_l k
    · intro y0 y1 y2 y3 y4
      unfold spec_l20Text.l0
      repeat' first
      | (with_reducible exact ih0 _ _ _ _ _)
      | (with_reducible exact spec_l20Rd_pick.mono _ _ _ _)
      | (with_reducible exact LeO.refl _)
      | (with_reducible exact LeO.none _)
      | (with_reducible refine LeO.ite ?_ ?_)
      | (with_reducible refine LeO.bind ?_ (fun _ => ?_))
      | exact ih0 _ _ _ _ _
      | exact spec_l20Rd_pick.mono _ _ _ _
      | exact LeO.none _
      | refine LeO.ite ?_ ?_
      | refine LeO.bind ?_ (fun _ => ?_)
theorem spec_l20Text.mono : ∀ a0 a1 k, LeO (spec_l20Text.f k a0 a1) (spec_l20Text.f (k + 1) a0 a1) := by
  intro a0 a1 k
  have ih0 := spec_l20Text.mono_l k
  unfold spec_l20Text.f
  repeat' first
      | (with_reducible exact ih0 _ _ _ _ _)
      | (with_reducible exact spec_l20Rd_pick.mono _ _ _ _)
      | (with_reducible exact LeO.refl _)
      | (with_reducible exact LeO.none _)
      | (with_reducible refine LeO.ite ?_ ?_)
      | (with_reducible refine LeO.bind ?_ (fun _ => ?_))
      | exact ih0 _ _ _ _ _
      | exact spec_l20Rd_pick.mono _ _ _ _
      | exact LeO.none _
      | refine LeO.ite ?_ ?_
      | refine LeO.bind ?_ (fun _ => ?_)
set_option maxHeartbeats 8000000 in
set_option maxRecDepth 100000 in
theorem spec_l20Text.calls (k : Nat) (g : Nat) (s0_0 : List Int) (s0_1 : Int) (r1 : ByteArray) (r2 : Int) (w0 w : World) (hI : IsS62 w0 w g s0_0 s0_1) (hB : Below w0.heap.size w0 w) (h : spec_l20Text.f k s0_0 s0_1 = some (r1, r2)) :
    Calls Tryd.prog 48 #[.pointer (some ⟨g, 0, none⟩)] w fun e w' => e = .returned (.string r1) ∧ IsS62 w0 w' g s0_0 r2 ∧ Below w0.heap.size w0 w' ∧ KeepBut w w' g none := by
  have HI0 := Aside0.mk hI
  have HK := Aside0.mk (KeepBut.refl w g none)
  have HL := Aside0.mk hB.size
  clear hI
  have HW0 := Aside0.mk hB.size
  have HB := Aside0.mk hB
  clear hB
  have H : ((spec_l20Rd_pick.f k s0_0 s0_1 6).bind fun bt107 => (spec_l20Text.l0 k (([(⟨#[97]⟩ : ByteArray), (⟨#[97, 110]⟩ : ByteArray), (⟨#[116, 104, 101]⟩ : ByteArray), (⟨#[111, 118, 101, 114]⟩ : ByteArray), (⟨#[117, 110, 100, 101, 114]⟩ : ByteArray), (⟨#[109, 101, 97, 100, 111, 119]⟩ : ByteArray), (⟨#[108, 105, 103, 104, 116, 104, 111, 117, 115, 101]⟩ : ByteArray)] : List ByteArray)) (⟨#[]⟩ : ByteArray) bt107.1 s0_0 bt107.2)) = some (r1, r2) := h
  clear h
  obtain ⟨y104, hy104⟩ : ∃ y_ : List ByteArray, y_ = (([(⟨#[97]⟩ : ByteArray), (⟨#[97, 110]⟩ : ByteArray), (⟨#[116, 104, 101]⟩ : ByteArray), (⟨#[111, 118, 101, 114]⟩ : ByteArray), (⟨#[117, 110, 100, 101, 114]⟩ : ByteArray), (⟨#[109, 101, 97, 100, 111, 119]⟩ : ByteArray), (⟨#[108, 105, 103, 104, 116, 104, 111, 117, 115, 101]⟩ : ByteArray)] : List ByteArray)) := ⟨_, rfl⟩
  replace H : ((spec_l20Rd_pick.f k s0_0 s0_1 6).bind fun bt107 => (spec_l20Text.l0 k y104 (⟨#[]⟩ : ByteArray) bt107.1 s0_0 bt107.2)) = some (r1, r2) := by first | (rw [hy104]; with_reducible exact H) | (have H2_ := (Option.bind_some _ _).symm.trans H; rw [hy104]; with_reducible exact H2_) | (have H2_ := (Option.bind_some _ _).symm.trans H; with_reducible exact H2_) | with_reducible exact H | (rw [hy104]; exact H) | exact H
  have Ny104 := Aside0.mk hy104
  clear hy104
  replace H := Option.bind_eq_some_iff.mp H
  obtain ⟨⟨t107, t108⟩, A20, H⟩ := H
  replace H : (spec_l20Text.l0 k y104 (⟨#[]⟩ : ByteArray) t107 s0_0 t108) = some (r1, r2) := H
  have A2 := Aside0.mk A20
  clear A20
  have H' := Aside0.mk H
  clear H
  go_enter Tryd.func48, Tryd.ntmps48
  go_wp2_with (first | ((with_reducible refine gate_dst (N := 7) rfl ?_); refine Kd.R_lit Kd.string _ 9 ?hg (N := 7) ?hd (xs := ([(⟨#[97]⟩ : ByteArray), (⟨#[97, 110]⟩ : ByteArray), (⟨#[116, 104, 101]⟩ : ByteArray), (⟨#[111, 118, 101, 114]⟩ : ByteArray), (⟨#[117, 110, 100, 101, 114]⟩ : ByteArray), (⟨#[109, 101, 97, 100, 111, 119]⟩ : ByteArray), (⟨#[108, 105, 103, 104, 116, 104, 111, 117, 115, 101]⟩ : ByteArray)] : List ByteArray)) (inner := [.string (⟨#[97]⟩ : ByteArray), .string (⟨#[97, 110]⟩ : ByteArray), .string (⟨#[116, 104, 101]⟩ : ByteArray), .string (⟨#[111, 118, 101, 114]⟩ : ByteArray), .string (⟨#[117, 110, 100, 101, 114]⟩ : ByteArray), .string (⟨#[109, 101, 97, 100, 111, 119]⟩ : ByteArray), .string (⟨#[108, 105, 103, 104, 116, 104, 111, 117, 115, 101]⟩ : ByteArray)]) (ok := fun _ => True) (okp := fun _ => True) ?hr ?hp (fun _ hk => hk) trivial (Below.refl _ _) (Nat.le_refl _) (by simp) ?_; (case hd => rfl); (case hg => rfl); (case hr => first | (go_simp; done) | (go_simp; rfl)); (case hp => exact (Reps.one (show Kd.M Kd.string _ _ _ (⟨#[97]⟩ : ByteArray) [.string (⟨#[97]⟩ : ByteArray)] from rfl) (Reps.one (show Kd.M Kd.string _ _ _ (⟨#[97, 110]⟩ : ByteArray) [.string (⟨#[97, 110]⟩ : ByteArray)] from rfl) (Reps.one (show Kd.M Kd.string _ _ _ (⟨#[116, 104, 101]⟩ : ByteArray) [.string (⟨#[116, 104, 101]⟩ : ByteArray)] from rfl) (Reps.one (show Kd.M Kd.string _ _ _ (⟨#[111, 118, 101, 114]⟩ : ByteArray) [.string (⟨#[111, 118, 101, 114]⟩ : ByteArray)] from rfl) (Reps.one (show Kd.M Kd.string _ _ _ (⟨#[117, 110, 100, 101, 114]⟩ : ByteArray) [.string (⟨#[117, 110, 100, 101, 114]⟩ : ByteArray)] from rfl) (Reps.one (show Kd.M Kd.string _ _ _ (⟨#[109, 101, 97, 100, 111, 119]⟩ : ByteArray) [.string (⟨#[109, 101, 97, 100, 111, 119]⟩ : ByteArray)] from rfl) (Reps.one (show Kd.M Kd.string _ _ _ (⟨#[108, 105, 103, 104, 116, 104, 111, 117, 115, 101]⟩ : ByteArray) [.string (⟨#[108, 105, 103, 104, 116, 104, 111, 117, 115, 101]⟩ : ByteArray)] from rfl) (Reps.none _ _))))))))); intro v105 w3 ho4 hb hg_ hnew_; clear hg_ hnew_; (first | rw [← Ny104.out] at ho4 | (simp only [Int.reduceToNat] at ho4; rw [← Ny104.out] at ho4)); have n0_ := Aside0.mk (Kd.R_lower ho4 (keep_size (w := w) (g := g) (row := none) (by repeat (first | (with_reducible first | exact HK.out | apply KeepBut.set_ | apply keep_drewN | apply keep_drew | apply keep_alloc) | exact HK.out)))); have n1_ := Aside0.mk (IsS62.below (by repeat (first | (with_reducible first | exact HI0.out | apply IsS62.alloc | apply IsS62.drewN | apply IsS62.drew | apply IsS62.set_1) | exact HI0.out)) hb); have n2_ := Aside0.mk (KeepBut.trans (by repeat (first | (with_reducible first | exact HK.out | apply KeepBut.set_ | apply keep_drewN | apply keep_drew | apply keep_alloc) | exact HK.out)) (KeepBut.of_below hb g none) (.inl rfl)); have n3_ := Aside0.mk (below_step (by repeat (first | (with_reducible first | exact HB.out | apply below_alloc | apply pw_below_drewN | apply below_drew1 | refine below_set ?_ (IsS62.ge HI0.out)) | exact HB.out)) hb); clear HI0; clear HK; clear HB; have HO106 := n0_; have HI0 := n1_; have HK := n2_; have HB := n3_; clear n0_ n1_ n2_ n3_; clear hb ho4) | ((with_reducible refine gate_callee (f := 38) rfl ?_); refine goesL_ (some 9) rfl rfl Tryd.func38 (by kernel_rfl) rfl #[.pointer (some ⟨g, 0, none⟩), .int .i64 6] rfl (by (try simp only [List.map_toArray, List.map_cons, List.map_nil]); first | done | rfl | (simp only [List.length_drop, List.length_take]; rfl)) ?_; (with_reducible refine (spec_l20Rd_pick.calls k g s0_0 s0_1 6 t107 t108 w0 _ ?side1 ?side2 A2.out).mono ?_); (case side1 => repeat (first | (with_reducible first | exact HI0.out | apply IsS62.alloc | apply IsS62.drewN | apply IsS62.drew | apply IsS62.set_1) | exact HI0.out)); (case side2 => repeat (first | (with_reducible first | exact HB.out | apply below_alloc | apply pw_below_drewN | apply below_drew1 | refine below_set ?_ (IsS62.ge HI0.out)) | exact HB.out)); rintro e w5 ⟨rfl, hi, hb, hk⟩; refine ⟨_, rfl, ?_⟩; have n0_ := Aside0.mk (Kd.R_mono (Kd.R_keep (IsS62.apart (show IsS62 w0 _ g s0_0 s0_1 from by repeat (first | (with_reducible first | exact HI0.out | apply IsS62.alloc | apply IsS62.drewN | apply IsS62.drew | apply IsS62.set_1) | exact HI0.out)) (by (with_reducible repeat (first | apply Kd.R_alloc | apply Kd.R_drewN | apply Kd.R_drew)); exact HO106.out) (by decide)) hk (fun _ h => h.2)) (fun _ h => h.1)); have n1_ := Aside0.mk (KeepBut.trans (by repeat (first | (with_reducible first | exact HK.out | apply KeepBut.set_ | apply keep_drewN | apply keep_drew | apply keep_alloc) | exact HK.out)) hk (.inl rfl)); have n2_ := Aside0.mk (hb); have n3_ := Aside0.mk (hi); clear HO106; clear HK; clear HB; clear HI0; have HO106 := n0_; have HK := n1_; have HB := n2_; have HI0 := n3_; clear n0_ n1_ n2_ n3_; (try clear hb); (try clear hb2); (try clear hk); (try clear hi)))
  go_loopg [4, 5] k (fun kq v4 v5 w' => ∃ (x4_1 : ByteArray) (x5_1 : Int) (x1001_1 : Int), v4 = .string x4_1 ∧ v5 = .int .i64 x5_1 ∧ Aside0 (spec_l20Text.l0 kq y104 x4_1 x5_1 s0_0 x1001_1 = some (r1, r2)) ∧ Aside0 (kq ≤ k) ∧ Aside0 (Kd.R Kd.string 9 w' w.heap.size (fun _ => True) v105 y104) ∧ Aside0 (IsS62 w0 w' g s0_0 x1001_1) ∧ Aside0 (KeepBut w w' g none) ∧ Aside0 (Below w0.heap.size w0 w'))
  case atStart => exact ⟨((⟨#[]⟩ : ByteArray)), (t107), (t108), (by first | rfl | (simp; done) | (simp [*]; done)), (by first | rfl | (simp; done) | (simp [*]; done)), H', ⟨Nat.le_refl _⟩, ⟨by (with_reducible repeat (first | apply Kd.R_alloc | apply Kd.R_drewN | apply Kd.R_drew)); exact HO106.out⟩, ⟨by repeat (first | (with_reducible first | exact HI0.out | apply IsS62.alloc | apply IsS62.drewN | apply IsS62.drew | apply IsS62.set_1) | exact HI0.out)⟩, ⟨by repeat (first | (with_reducible first | exact HK.out | apply KeepBut.set_ | apply keep_drewN | apply keep_drew | apply keep_alloc) | exact HK.out)⟩, ⟨by repeat (first | (with_reducible first | exact HB.out | apply below_alloc | apply pw_below_drewN | apply below_drew1 | refine below_set ?_ (IsS62.ge HI0.out)) | exact HB.out)⟩⟩
  case round =>
    clear H'
    try clear p2
    try clear c3
    try clear c4
    obtain ⟨x4_1, x5_1, x1001_1, rfl, rfl, HA, HK1, HO_3, HI0, HK, HB⟩ := hrel
    cases gk with
    | zero => exact absurd HA.out (by simp [spec_l20Text.l0])
    | succ k1 =>
      have H := HA.out
      clear HA
      simp only [spec_l20Text.l0] at H
      by_cases c6 : x5_1 > 0
      · rw [if_pos c6] at H
        have c6b0 : decide (0 < x5_1) = true := decide_eq_true c6
        clear c6
        replace H := Option.bind_eq_some_iff.mp H
        obtain ⟨⟨t109, t110⟩, A70, H⟩ := H
        replace H : (if 0 ≤ t109 then (if t109 < (y104.length : Int) then (if x4_1.toList = ([] : List UInt8) then (spec_l20Text.l0 k1 y104 (rdOf ByteArray.empty y104 t109) (wrap64 (x5_1 - 1)) s0_0 t110) else (if (wrap64 ((wrap64 ((x4_1.size : Int) + 1)) + ((rdOf ByteArray.empty y104 t109).size : Int))) ≤ 30 then (if x4_1.size + 1 ≤ 9223372036854775807 then (if (x4_1 ++ (⟨#[32]⟩ : ByteArray)).size + (rdOf ByteArray.empty y104 t109).size ≤ 9223372036854775807 then (spec_l20Text.l0 k1 y104 ((x4_1 ++ (⟨#[32]⟩ : ByteArray)) ++ (rdOf ByteArray.empty y104 t109)) (wrap64 (x5_1 - 1)) s0_0 t110) else (none)) else (none)) else (spec_l20Text.l0 k1 y104 x4_1 (wrap64 (x5_1 - 1)) s0_0 t110))) else (none)) else (none)) = some (r1, r2) := H
        have A7 := Aside0.mk A70
        clear A70
        by_cases c8 : 0 ≤ t109
        · rw [if_pos c8] at H
          have c8b0 : decide (0 ≤ t109) = true := decide_eq_true c8
          clear c8
          by_cases c9 : t109 < (y104.length : Int)
          · rw [if_pos c9] at H
            have c9b0 : decide (t109 < (y104.length : Int)) = true := decide_eq_true c9
            clear c9
            by_cases c10 : x4_1.toList = ([] : List UInt8)
            · rw [if_pos c10] at H
              have c10b0 : (x4_1.toList == ([] : List UInt8)) = true := beq_iff_eq.mpr c10
              have c10b1 : (x4_1.toList != ([] : List UInt8)) = false := bne_eq_false_iff_eq.mpr c10
              clear c10
              have H' := Aside0.mk H
              clear H
              obtain ⟨Ao11, co11, eo11⟩ := Kd.R_slice HO_3.out
              subst eo11
              go_wp2_with (first | ((with_reducible refine gate_callee (f := 38) rfl ?_); refine goesL_ (some 18) rfl rfl Tryd.func38 (by kernel_rfl) rfl #[.pointer (some ⟨g, 0, none⟩), .int .i64 (y104.length : Int)] rfl (by (try simp only [List.map_toArray, List.map_cons, List.map_nil]); first | done | rfl | (simp only [List.length_drop, List.length_take]; rfl)) ?_; (with_reducible refine (spec_l20Rd_pick.calls k1 g s0_0 x1001_1 (y104.length : Int) t109 t110 w0 _ ?side1 ?side2 A7.out).mono ?_); (case side1 => repeat (first | (with_reducible first | exact HI0.out | apply IsS62.alloc | apply IsS62.drewN | apply IsS62.drew | apply IsS62.set_1) | exact HI0.out)); (case side2 => repeat (first | (with_reducible first | exact HB.out | apply below_alloc | apply pw_below_drewN | apply below_drew1 | refine below_set ?_ (IsS62.ge HI0.out)) | exact HB.out)); rintro e w12 ⟨rfl, hi, hb, hk⟩; refine ⟨_, rfl, ?_⟩; have n0_ := Aside0.mk (Kd.R_mono (Kd.R_keep (IsS62.apart (show IsS62 w0 _ g s0_0 x1001_1 from by repeat (first | (with_reducible first | exact HI0.out | apply IsS62.alloc | apply IsS62.drewN | apply IsS62.drew | apply IsS62.set_1) | exact HI0.out)) (by (with_reducible repeat (first | apply Kd.R_alloc | apply Kd.R_drewN | apply Kd.R_drew)); exact HO_3.out) (by decide)) hk (fun _ h => h.2)) (fun _ h => h.1)); have n1_ := Aside0.mk (KeepBut.trans (by repeat (first | (with_reducible first | exact HK.out | apply KeepBut.set_ | apply keep_drewN | apply keep_drew | apply keep_alloc) | exact HK.out)) hk (.inl rfl)); have n2_ := Aside0.mk (hb); have n3_ := Aside0.mk (hi); clear HO_3; clear HK; clear HB; clear HI0; have HO_3 := n0_; have HK := n1_; have HB := n2_; have HI0 := n3_; clear n0_ n1_ n2_ n3_; (try clear hb); (try clear hb2); (try clear hk); (try clear hi); have p111 : 0 ≤ (t109 : Int) := of_decide_eq_true (by first | (with_reducible assumption) | assumption); have q111 : t109 < (y104.length : Int) := of_decide_eq_true (by first | (with_reducible assumption) | assumption); obtain ⟨ad111, e111, hx111_0⟩ := Kd.at_string (Kd.R_reads' HO_3.out).2.2 t109 p111 q111; cases e111; replace p111 := eq_true p111; replace q111 := eq_true q111))
              go_roundg k1
              case measure => have := HK1.out; omega
              case rel => exact ⟨(rdOf ByteArray.empty y104 t109), (wrap64 (x5_1 - 1)), (t110), (by first | rfl | (simp; done) | (simp [*]; done)), (by first | rfl | (simp; done) | (simp [*]; done)), H', ⟨by have := HK1.out; omega⟩, ⟨by (with_reducible repeat (first | apply Kd.R_alloc | apply Kd.R_drewN | apply Kd.R_drew)); exact HO_3.out⟩, ⟨by repeat (first | (with_reducible first | exact HI0.out | apply IsS62.alloc | apply IsS62.drewN | apply IsS62.drew | apply IsS62.set_1) | exact HI0.out)⟩, ⟨by repeat (first | (with_reducible first | exact HK.out | apply KeepBut.set_ | apply keep_drewN | apply keep_drew | apply keep_alloc) | exact HK.out)⟩, ⟨by repeat (first | (with_reducible first | exact HB.out | apply below_alloc | apply pw_below_drewN | apply below_drew1 | refine below_set ?_ (IsS62.ge HI0.out)) | exact HB.out)⟩⟩
            · rw [if_neg c10] at H
              have c10b0 : (x4_1.toList == ([] : List UInt8)) = false := beq_eq_false_iff_ne.mpr c10
              have c10b1 : (x4_1.toList != ([] : List UInt8)) = true := bne_iff_ne.mpr c10
              by_cases c13 : (wrap64 ((wrap64 ((x4_1.size : Int) + 1)) + ((rdOf ByteArray.empty y104 t109).size : Int))) ≤ 30
              · rw [if_pos c13] at H
                have c13b0 : decide ((wrap64 ((wrap64 ((x4_1.size : Int) + 1)) + ((rdOf ByteArray.empty y104 t109).size : Int))) ≤ 30) = true := decide_eq_true c13
                clear c13
                by_cases c14 : x4_1.size + 1 ≤ 9223372036854775807
                · rw [if_pos c14] at H
                  have c14b0 := eq_true c14
                  have c14b1 : decide (x4_1.size + 1 ≤ 9223372036854775807) = true := decide_eq_true c14
                  try have c14b2 : (9223372036854775807 < x4_1.size + 1) = False := eq_false (Nat.not_lt.2 c14)
                  (try simp only [show wrap64 ((x4_1.size : Int) + 1) = (x4_1.size : Int) + 1 from by unfold wrap64; omega] at c13b0)
                  by_cases c15 : (x4_1 ++ (⟨#[32]⟩ : ByteArray)).size + (rdOf ByteArray.empty y104 t109).size ≤ 9223372036854775807
                  · rw [if_pos c15] at H
                    have c15b0 := eq_true c15
                    have c15b1 : decide ((x4_1 ++ (⟨#[32]⟩ : ByteArray)).size + (rdOf ByteArray.empty y104 t109).size ≤ 9223372036854775807) = true := decide_eq_true c15
                    try have c15b2 : (9223372036854775807 < (x4_1 ++ (⟨#[32]⟩ : ByteArray)).size + (rdOf ByteArray.empty y104 t109).size) = False := eq_false (Nat.not_lt.2 c15)
                    (try have c15n2 := c15b2)
                    (try simp only [ByteArray.size_append, show (⟨#[32]⟩ : ByteArray).size = 1 from rfl] at c15n2)
                    have H' := Aside0.mk H
                    clear H
                    obtain ⟨Ao16, co16, eo16⟩ := Kd.R_slice HO_3.out
                    subst eo16
                    go_wp2_with (first | ((with_reducible refine gate_callee (f := 38) rfl ?_); refine goesL_ (some 18) rfl rfl Tryd.func38 (by kernel_rfl) rfl #[.pointer (some ⟨g, 0, none⟩), .int .i64 (y104.length : Int)] rfl (by (try simp only [List.map_toArray, List.map_cons, List.map_nil]); first | done | rfl | (simp only [List.length_drop, List.length_take]; rfl)) ?_; (with_reducible refine (spec_l20Rd_pick.calls k1 g s0_0 x1001_1 (y104.length : Int) t109 t110 w0 _ ?side1 ?side2 A7.out).mono ?_); (case side1 => repeat (first | (with_reducible first | exact HI0.out | apply IsS62.alloc | apply IsS62.drewN | apply IsS62.drew | apply IsS62.set_1) | exact HI0.out)); (case side2 => repeat (first | (with_reducible first | exact HB.out | apply below_alloc | apply pw_below_drewN | apply below_drew1 | refine below_set ?_ (IsS62.ge HI0.out)) | exact HB.out)); rintro e w17 ⟨rfl, hi, hb, hk⟩; refine ⟨_, rfl, ?_⟩; have n0_ := Aside0.mk (Kd.R_mono (Kd.R_keep (IsS62.apart (show IsS62 w0 _ g s0_0 x1001_1 from by repeat (first | (with_reducible first | exact HI0.out | apply IsS62.alloc | apply IsS62.drewN | apply IsS62.drew | apply IsS62.set_1) | exact HI0.out)) (by (with_reducible repeat (first | apply Kd.R_alloc | apply Kd.R_drewN | apply Kd.R_drew)); exact HO_3.out) (by decide)) hk (fun _ h => h.2)) (fun _ h => h.1)); have n1_ := Aside0.mk (KeepBut.trans (by repeat (first | (with_reducible first | exact HK.out | apply KeepBut.set_ | apply keep_drewN | apply keep_drew | apply keep_alloc) | exact HK.out)) hk (.inl rfl)); have n2_ := Aside0.mk (hb); have n3_ := Aside0.mk (hi); clear HO_3; clear HK; clear HB; clear HI0; have HO_3 := n0_; have HK := n1_; have HB := n2_; have HI0 := n3_; clear n0_ n1_ n2_ n3_; (try clear hb); (try clear hb2); (try clear hk); (try clear hi); have p111 : 0 ≤ (t109 : Int) := of_decide_eq_true (by first | (with_reducible assumption) | assumption); have q111 : t109 < (y104.length : Int) := of_decide_eq_true (by first | (with_reducible assumption) | assumption); obtain ⟨ad111, e111, hx111_0⟩ := Kd.at_string (Kd.R_reads' HO_3.out).2.2 t109 p111 q111; cases e111; replace p111 := eq_true p111; replace q111 := eq_true q111))
                    go_roundg k1
                    case measure => have := HK1.out; omega
                    case rel => exact ⟨((x4_1 ++ (⟨#[32]⟩ : ByteArray)) ++ (rdOf ByteArray.empty y104 t109)), (wrap64 (x5_1 - 1)), (t110), (by first | rfl | (simp; done) | (simp [*]; done)), (by first | rfl | (simp; done) | (simp [*]; done)), H', ⟨by have := HK1.out; omega⟩, ⟨by (with_reducible repeat (first | apply Kd.R_alloc | apply Kd.R_drewN | apply Kd.R_drew)); exact HO_3.out⟩, ⟨by repeat (first | (with_reducible first | exact HI0.out | apply IsS62.alloc | apply IsS62.drewN | apply IsS62.drew | apply IsS62.set_1) | exact HI0.out)⟩, ⟨by repeat (first | (with_reducible first | exact HK.out | apply KeepBut.set_ | apply keep_drewN | apply keep_drew | apply keep_alloc) | exact HK.out)⟩, ⟨by repeat (first | (with_reducible first | exact HB.out | apply below_alloc | apply pw_below_drewN | apply below_drew1 | refine below_set ?_ (IsS62.ge HI0.out)) | exact HB.out)⟩⟩
                  · rw [if_neg c15] at H
                    exact absurd H (by simp)
                · rw [if_neg c14] at H
                  exact absurd H (by simp)
              · rw [if_neg c13] at H
                have c13b0 : decide ((wrap64 ((wrap64 ((x4_1.size : Int) + 1)) + ((rdOf ByteArray.empty y104 t109).size : Int))) ≤ 30) = false := decide_eq_false c13
                clear c13
                have H' := Aside0.mk H
                clear H
                obtain ⟨Ao18, co18, eo18⟩ := Kd.R_slice HO_3.out
                subst eo18
                go_wp2_with (first | ((with_reducible refine gate_callee (f := 38) rfl ?_); refine goesL_ (some 18) rfl rfl Tryd.func38 (by kernel_rfl) rfl #[.pointer (some ⟨g, 0, none⟩), .int .i64 (y104.length : Int)] rfl (by (try simp only [List.map_toArray, List.map_cons, List.map_nil]); first | done | rfl | (simp only [List.length_drop, List.length_take]; rfl)) ?_; (with_reducible refine (spec_l20Rd_pick.calls k1 g s0_0 x1001_1 (y104.length : Int) t109 t110 w0 _ ?side1 ?side2 A7.out).mono ?_); (case side1 => repeat (first | (with_reducible first | exact HI0.out | apply IsS62.alloc | apply IsS62.drewN | apply IsS62.drew | apply IsS62.set_1) | exact HI0.out)); (case side2 => repeat (first | (with_reducible first | exact HB.out | apply below_alloc | apply pw_below_drewN | apply below_drew1 | refine below_set ?_ (IsS62.ge HI0.out)) | exact HB.out)); rintro e w19 ⟨rfl, hi, hb, hk⟩; refine ⟨_, rfl, ?_⟩; have n0_ := Aside0.mk (Kd.R_mono (Kd.R_keep (IsS62.apart (show IsS62 w0 _ g s0_0 x1001_1 from by repeat (first | (with_reducible first | exact HI0.out | apply IsS62.alloc | apply IsS62.drewN | apply IsS62.drew | apply IsS62.set_1) | exact HI0.out)) (by (with_reducible repeat (first | apply Kd.R_alloc | apply Kd.R_drewN | apply Kd.R_drew)); exact HO_3.out) (by decide)) hk (fun _ h => h.2)) (fun _ h => h.1)); have n1_ := Aside0.mk (KeepBut.trans (by repeat (first | (with_reducible first | exact HK.out | apply KeepBut.set_ | apply keep_drewN | apply keep_drew | apply keep_alloc) | exact HK.out)) hk (.inl rfl)); have n2_ := Aside0.mk (hb); have n3_ := Aside0.mk (hi); clear HO_3; clear HK; clear HB; clear HI0; have HO_3 := n0_; have HK := n1_; have HB := n2_; have HI0 := n3_; clear n0_ n1_ n2_ n3_; (try clear hb); (try clear hb2); (try clear hk); (try clear hi); have p111 : 0 ≤ (t109 : Int) := of_decide_eq_true (by first | (with_reducible assumption) | assumption); have q111 : t109 < (y104.length : Int) := of_decide_eq_true (by first | (with_reducible assumption) | assumption); obtain ⟨ad111, e111, hx111_0⟩ := Kd.at_string (Kd.R_reads' HO_3.out).2.2 t109 p111 q111; cases e111; replace p111 := eq_true p111; replace q111 := eq_true q111))
                go_roundg k1
                case measure => have := HK1.out; omega
                case rel => exact ⟨(x4_1), (wrap64 (x5_1 - 1)), (t110), (by first | rfl | (simp; done) | (simp [*]; done)), (by first | rfl | (simp; done) | (simp [*]; done)), H', ⟨by have := HK1.out; omega⟩, ⟨by (with_reducible repeat (first | apply Kd.R_alloc | apply Kd.R_drewN | apply Kd.R_drew)); exact HO_3.out⟩, ⟨by repeat (first | (with_reducible first | exact HI0.out | apply IsS62.alloc | apply IsS62.drewN | apply IsS62.drew | apply IsS62.set_1) | exact HI0.out)⟩, ⟨by repeat (first | (with_reducible first | exact HK.out | apply KeepBut.set_ | apply keep_drewN | apply keep_drew | apply keep_alloc) | exact HK.out)⟩, ⟨by repeat (first | (with_reducible first | exact HB.out | apply below_alloc | apply pw_below_drewN | apply below_drew1 | refine below_set ?_ (IsS62.ge HI0.out)) | exact HB.out)⟩⟩
          · rw [if_neg c9] at H
            exact absurd H (by simp)
        · rw [if_neg c8] at H
          exact absurd H (by simp)
      · rw [if_neg c6] at H
        have c6b0 : decide (0 < x5_1) = false := decide_eq_false c6
        clear c6
        simp only [Option.some.injEq, Prod.mk.injEq] at H
        obtain ⟨rfl, rfl⟩ := H
        go_wp2
        go_ret
        exact ⟨by first | rfl | (simp [errW_none, errW_some] <;> rfl) | (simp [*, errW_none, errW_some] <;> rfl), by repeat (first | (with_reducible first | exact HI0.out | apply IsS62.alloc | apply IsS62.drewN | apply IsS62.drew | apply IsS62.set_1) | exact HI0.out), by repeat (first | (with_reducible first | exact HB.out | apply below_alloc | apply pw_below_drewN | apply below_drew1 | refine below_set ?_ (IsS62.ge HI0.out)) | exact HB.out), by repeat (first | (with_reducible first | exact HK.out | apply KeepBut.set_ | apply keep_drewN | apply keep_drew | apply keep_alloc) | exact HK.out)⟩
end Go.Proofs.YtldmepofbkcmnaaDoor.Pr
