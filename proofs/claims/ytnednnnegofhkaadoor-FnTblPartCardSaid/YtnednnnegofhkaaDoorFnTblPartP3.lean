/- A part of what the claim of 'FnTblPart' leans on. -/
import Derived.Test.YtnednnnegofhkaaDoorFnTblPartP0
import Derived.Test.YtnednnnegofhkaaDoorFnTblPartP1
import Derived.Test.YtnednnnegofhkaaDoorFnTblPartP2
import Derived.Laws.EntriesVeiled
namespace Go.Proofs.YtnednnnegofhkaaDoor.Pr
open Go.RowKit Go.Proofs.YtnednnnegofhkaaDoorW.PrintWords Go.Proofs.YtnednnnegofhkaaDoorW.PrintLast Go.Proofs.YtnednnnegofhkaaDoorW.PrintMore
attribute [local go_sem] max2_int min2_int max_two min_two max_three min_three max_four min_four
set_option linter.unusedVariables false
set_option linter.unusedSimpArgs false
def tin (lo hi n : Int) : Bool := decide (lo ≤ n) && decide (n ≤ hi)
theorem tin_eq (lo hi n : Int) : impl_in.f n lo hi = some (tin lo hi n) := by
  unfold impl_in.f tin
  by_cases h : lo ≤ n
  · rw [if_pos h]; simp [h]
  · rw [if_neg h]; simp [h]
def colB (a b : Int) : Bool := if a = 0 then b == 0 else if a = 1 then tin 0 60 b else if a = 2 then tin 1 100 b else false
theorem colB_eq (a b : Int) : impl_TblCol_ok.f a b = some (colB a b) := by
  unfold impl_TblCol_ok.f colB
  simp only [tin_eq, Option.bind_some]
  split
  · rfl
  · split
    · rfl
    · split <;> rfl
def colsB (l : List S29) : Bool := l.any fun c => !(colB c.f0 c.f1)
def rowsB (k : Nat) (l : List S32) : Bool := l.any fun r => rowB k r.f0
def rowsK (k : Nat) (l : List S32) : Bool := l.all fun r => r.f0.all fun c => (cellP k c).isSome
def impl_TblOk.f (k : Nat) (l0_0 : List S29) (a0_1 a0_2 : Int) (l0_3 : List S32) (a0_4 : Int) : Option Bool :=
  if tin 1 8 (l0_3.length : Int) = true then (if (l0_0.length : Int) > 8 then some false else if tin 0 3 a0_4 = true then
    (if tin 0 (l0_3.length : Int) a0_1 = true then (if tin 0 (wrap64 ((l0_3.length : Int) - a0_1)) a0_2 = true then (if colsB l0_0 = true then some false else if rowsK k l0_3 = true then some (!(rowsB k l0_3)) else none) else some false) else some false) else some false) else some false
theorem any_mem {α : Type} (p q : α → Bool) : ∀ l : List α, (∀ x ∈ l, p x = q x) → l.any p = l.any q
  | [], _ => rfl
  | x :: l, h => by rw [List.any_cons, List.any_cons, h x (by simp), any_mem p q l (fun y hy => h y (by simp [hy]))]
theorem cellP_mono (k : Nat) (c : S37) (h : (cellP k c).isSome = true) : cellP (k + 1) c = cellP k c := by
  obtain ⟨q, hq⟩ := Option.isSome_iff_exists.mp h
  rw [hq]
  exact impl_CellOk.mono _ _ _ _ _ _ _ _ _ _ _ k q hq
theorem impl_TblOk.mono : ∀ a0 a1 a2 a3 a4 k, LeO (impl_TblOk.f k a0 a1 a2 a3 a4) (impl_TblOk.f (k + 1) a0 a1 a2 a3 a4) := by
  intro a0 a1 a2 a3 a4 k r h
  unfold impl_TblOk.f at h ⊢
  by_cases h7 : rowsK k a3 = true
  · have hm : ∀ x ∈ a3, ∀ c ∈ x.f0, (cellP k c).isSome = true := by
      unfold rowsK at h7
      rw [List.all_eq_true] at h7
      intro x hx c hc
      exact (List.all_eq_true.mp (h7 x hx)) c hc
    have e1 : rowsK (k + 1) a3 = true := by
      unfold rowsK
      rw [List.all_eq_true]
      intro x hx
      rw [List.all_eq_true]
      intro c hc
      rw [cellP_mono k c (hm x hx c hc)]; exact hm x hx c hc
    have e2 : rowsB (k + 1) a3 = rowsB k a3 := by
      unfold rowsB
      refine any_mem _ _ a3 (fun x hx => ?_)
      unfold rowB
      congr 1
      refine any_mem _ _ x.f0 (fun c hc => ?_)
      unfold cellB
      rw [cellP_mono k c (hm x hx c hc)]
    rw [e1, e2]
    rw [h7] at h
    exact h
  · rw [if_neg h7] at h
    split at h
    · split at h
      · rename_i h1 h2; rw [if_pos h1, if_pos h2]; exact h
      · rename_i h1 h2; rw [if_pos h1, if_neg h2]
        split at h
        · rename_i h3; rw [if_pos h3]
          split at h
          · rename_i h4; rw [if_pos h4]
            split at h
            · rename_i h5; rw [if_pos h5]
              split at h
              · rename_i h6; rw [if_pos h6]; exact h
              · cases h
            · rename_i h5; rw [if_neg h5]; exact h
          · rename_i h4; rw [if_neg h4]; exact h
        · rename_i h3; rw [if_neg h3]; exact h
    · rename_i h1; rw [if_neg h1]; exact h
set_option maxHeartbeats 8000000 in
set_option maxRecDepth 100000 in
theorem impl_TblOk.calls (k : Nat) (A0_0 : Option Addr) (c0_0 : Nat) (l0_0 : List S29) (a0_1 a0_2 : Int) (A0_3 : Option Addr) (c0_3 : Nat) (l0_3 : List S32) (a0_4 : Int) (r : Bool) (w : World) (hr0_0 : Kd.C k29 w A0_0 l0_0.length l0_0) (hc0_0 : l0_0.length ≤ c0_0) (hr0_3 : Kd.C k32 w A0_3 l0_3.length l0_3) (hc0_3 : l0_3.length ≤ c0_3) (h : impl_TblOk.f k l0_0 a0_1 a0_2 l0_3 a0_4 = some r) :
    Calls Tryd.prog 8 #[.agg #[.slice A0_0 l0_0.length c0_0, .int .i64 a0_1, .int .i64 a0_2, .slice A0_3 l0_3.length c0_3, .int .i64 a0_4]] w fun e w' => e = .returned (.bool r) ∧ Below w.heap.size w w' := by
  unfold impl_TblOk.f at h
  have bel : ∀ o, Below w.heap.size w (w.alloc o) := fun o => below_alloc (Below.refl w.heap.size w) o
  have HB := Aside0.mk bel
  have hm := Kd.C_max hr0_3
  have i1 := fun W => impl_in.calls (l0_3.length : Int) 1 8 _ W (tin_eq 1 8 (l0_3.length : Int))
  have i3 := fun W => impl_in.calls a0_4 0 3 _ W (tin_eq 0 3 a0_4)
  have i4 := fun W => impl_in.calls a0_1 0 (l0_3.length : Int) _ W (tin_eq 0 (l0_3.length : Int) a0_1)
  have i5 := fun W => impl_in.calls a0_2 0 (wrap64 ((l0_3.length : Int) - a0_1)) _ W (tin_eq 0 (wrap64 ((l0_3.length : Int) - a0_1)) a0_2)
  have hcol : ∀ W, Below w.heap.size w W → Calls Tryd.prog 24 #[.slice A0_0 l0_0.length c0_0, .func (.func 25) #[] #[]] W fun e w' => e = .returned (.bool (colsB l0_0)) ∧ Below W.heap.size W w' := fun W hb => by
    refine contTblCol_calls (fun c => !(colB c.f0 c.f1)) 25 #[] #[] (enters_ Tryd.func25 (by kernel_rfl) rfl) A0_0 c0_0 l0_0 W (Kd.C_below hr0_0 hb) hc0_0 (fun W' x _ _ => ?_)
    exact impl_TblOk_1.calls x.f0 x.f1 _ W' (by unfold impl_TblOk_1.f; rw [colB_eq]; rfl)
  have hrow : rowsK k l0_3 = true → ∀ (W : World) (g : Nat), Below w.heap.size w W → W.cell? ⟨g, 0, none⟩ = some (.func (.func 27) #[] #[]) → Calls Tryd.prog 28 #[.slice A0_3 l0_3.length c0_3, .func (.func 29) #[] #[.pointer (some ⟨g, 0, none⟩)]] W fun e w' => e = .returned (.bool (rowsB k l0_3)) ∧ Below W.heap.size W w' := fun hk W g hb hg => by
    refine contTblRow_calls (fun r => rowB k r.f0) 29 #[] #[.pointer (some ⟨g, 0, none⟩)] (enters_ Tryd.func29 (by kernel_rfl) rfl) A0_3 c0_3 l0_3 W (Kd.C_below hr0_3 hb) hc0_3 (fun W' x A' c' hx hb' hl hC => ?_)
    refine rowB_calls k x.f1 A' c' x.f0 g W' ((hb'.cell (World.block_lt_of_cell? W _ hg)).trans hg) hC hl (fun c hc => ?_)
    unfold rowsK at hk
    exact List.all_eq_true.mp (List.all_eq_true.mp hk x hx) c hc
  clear hr0_0 hr0_3 bel
  generalize tin 1 8 (l0_3.length : Int) = b1 at *
  generalize tin 0 3 a0_4 = b3 at *
  generalize tin 0 (l0_3.length : Int) a0_1 = b4 at *
  generalize tin 0 (wrap64 ((l0_3.length : Int) - a0_1)) a0_2 = b5 at *
  generalize colsB l0_0 = b6 at *
  cases b1 with
  | false =>
    obtain rfl : false = r := by simpa using h
    have I1 := Aside0.mk i1
    clear i1 i3 i4 i5 hcol hrow h
    go_enter Tryd.func8, Tryd.ntmps8
    go_wp2_with ((go_at_call 22; (with_reducible refine (I1.out _).mono ?_); rintro e w' ⟨rfl, ⟨nd, rfl⟩⟩))
    go_ret
    exact ⟨rfl, by repeat (first | exact HB.out _ | apply pw_below_drewN)⟩
  | true =>
  have I1 := Aside0.mk i1
  clear i1
  rw [if_pos rfl] at h
  by_cases c8 : (l0_0.length : Int) > 8
  · rw [if_pos c8] at h
    obtain rfl : false = r := by simpa using h
    have d8 : decide ((l0_0.length : Int) > 8) = true := decide_eq_true c8
    clear i3 i4 i5 hcol hrow h
    go_enter Tryd.func8, Tryd.ntmps8
    go_wp2_with ((go_at_call 22; (with_reducible refine (I1.out _).mono ?_); rintro e w' ⟨rfl, ⟨nd, rfl⟩⟩))
    go_ret
    exact ⟨rfl, by repeat (first | exact HB.out _ | apply pw_below_drewN)⟩
  rw [if_neg c8] at h
  have d8 : decide ((l0_0.length : Int) > 8) = false := decide_eq_false c8
  cases b3 with
  | false =>
    obtain rfl : false = r := by simpa using h
    have I3 := Aside0.mk i3
    clear i3 i4 i5 hcol hrow h
    go_enter Tryd.func8, Tryd.ntmps8
    go_wp2_with (first | (go_at_call 22; (with_reducible refine (I1.out _).mono ?_); rintro e w' ⟨rfl, ⟨nd, rfl⟩⟩) | (go_at_call 22; (with_reducible refine (I3.out _).mono ?_); rintro e w' ⟨rfl, ⟨nd, rfl⟩⟩))
    go_ret
    exact ⟨rfl, by repeat (first | exact HB.out _ | apply pw_below_drewN)⟩
  | true =>
  have I3 := Aside0.mk i3
  clear i3
  rw [if_pos rfl] at h
  cases b4 with
  | false =>
    obtain rfl : false = r := by simpa using h
    have I4 := Aside0.mk i4
    clear i4 i5 hcol hrow h
    go_enter Tryd.func8, Tryd.ntmps8
    go_wp2_with (first | (go_at_call 22; (with_reducible refine (I1.out _).mono ?_); rintro e w' ⟨rfl, ⟨nd, rfl⟩⟩) | (go_at_call 22; (with_reducible refine (I3.out _).mono ?_); rintro e w' ⟨rfl, ⟨nd, rfl⟩⟩) | (go_at_call 22; (with_reducible refine (I4.out _).mono ?_); rintro e w' ⟨rfl, ⟨nd, rfl⟩⟩))
    go_ret
    exact ⟨rfl, by repeat (first | exact HB.out _ | apply pw_below_drewN)⟩
  | true =>
  have I4 := Aside0.mk i4
  clear i4
  rw [if_pos rfl] at h
  cases b5 with
  | false =>
    obtain rfl : false = r := by simpa using h
    have I5 := Aside0.mk i5
    clear i5 hcol hrow h
    go_enter Tryd.func8, Tryd.ntmps8
    go_wp2_with (first | (go_at_call 22; (with_reducible refine (I1.out _).mono ?_); rintro e w' ⟨rfl, ⟨nd, rfl⟩⟩) | (go_at_call 22; (with_reducible refine (I3.out _).mono ?_); rintro e w' ⟨rfl, ⟨nd, rfl⟩⟩) | (go_at_call 22; (with_reducible refine (I4.out _).mono ?_); rintro e w' ⟨rfl, ⟨nd, rfl⟩⟩) | (go_at_call 22; (with_reducible refine (I5.out _).mono ?_); rintro e w' ⟨rfl, ⟨nd, rfl⟩⟩))
    go_ret
    exact ⟨rfl, by repeat (first | exact HB.out _ | apply pw_below_drewN)⟩
  | true =>
  have I5 := Aside0.mk i5
  clear i5
  rw [if_pos rfl] at h
  cases b6 with
  | true =>
    obtain rfl : false = r := by simpa using h
    have IC := Aside0.mk hcol
    clear hcol hrow h
    go_enter Tryd.func8, Tryd.ntmps8
    go_wp2_with (first | (go_at_call 22; (with_reducible refine (I1.out _).mono ?_); rintro e w' ⟨rfl, ⟨nd, rfl⟩⟩) | (go_at_call 22; (with_reducible refine (I3.out _).mono ?_); rintro e w' ⟨rfl, ⟨nd, rfl⟩⟩) | (go_at_call 22; (with_reducible refine (I4.out _).mono ?_); rintro e w' ⟨rfl, ⟨nd, rfl⟩⟩) | (go_at_call 22; (with_reducible refine (I5.out _).mono ?_); rintro e w' ⟨rfl, ⟨nd, rfl⟩⟩) | (go_at_call 24; (with_reducible refine (IC.out _ (by repeat (first | exact HB.out _ | apply pw_below_drewN))).mono ?_); rintro e wc ⟨rfl, hbc⟩; have HBC := Aside0.mk (below_step (by repeat (first | exact HB.out _ | apply pw_below_drewN)) hbc); have HKC := Aside0.mk (blk_below (by (repeat (first | exact blk_new _ _ | refine blk_drewN ?_ _)) : _) hbc); have hz3 : wc.cell? ⟨w.heap.size, 3, none⟩ = some (.slice A0_3 l0_3.length c0_3) := (blk_cell HKC.out 3).trans rfl; have hlw : w.heap.size < wc.heap.size := blk_lt HKC.out; have hnw : ¬ w.heap.size = wc.heap.size := Nat.ne_of_lt hlw; clear hbc))
    go_ret
    exact ⟨rfl, HBC.out⟩
  | false =>
  have IC := Aside0.mk hcol
  clear hcol
  rw [if_neg (by simp)] at h
  by_cases hk : rowsK k l0_3 = true
  case neg => rw [if_neg hk] at h; cases h
  rw [if_pos hk] at h
  obtain rfl := Option.some.inj h
  have IR := Aside0.mk (hrow hk)
  clear hrow h hk
  go_enter Tryd.func8, Tryd.ntmps8
  go_wp2_with (first | (go_at_call 22; (with_reducible refine (I1.out _).mono ?_); rintro e w' ⟨rfl, ⟨nd, rfl⟩⟩) | (go_at_call 22; (with_reducible refine (I3.out _).mono ?_); rintro e w' ⟨rfl, ⟨nd, rfl⟩⟩) | (go_at_call 22; (with_reducible refine (I4.out _).mono ?_); rintro e w' ⟨rfl, ⟨nd, rfl⟩⟩) | (go_at_call 22; (with_reducible refine (I5.out _).mono ?_); rintro e w' ⟨rfl, ⟨nd, rfl⟩⟩) | (go_at_call 24; (with_reducible refine (IC.out _ (by repeat (first | exact HB.out _ | apply pw_below_drewN))).mono ?_); rintro e wc ⟨rfl, hbc⟩; have HBC := Aside0.mk (below_step (by repeat (first | exact HB.out _ | apply pw_below_drewN)) hbc); have HKC := Aside0.mk (blk_below (by (repeat (first | exact blk_new _ _ | refine blk_drewN ?_ _)) : _) hbc); have hz3 : wc.cell? ⟨w.heap.size, 3, none⟩ = some (.slice A0_3 l0_3.length c0_3) := (blk_cell HKC.out 3).trans rfl; have hlw : w.heap.size < wc.heap.size := blk_lt HKC.out; have hnw : ¬ w.heap.size = wc.heap.size := Nat.ne_of_lt hlw; clear hbc) | ((with_reducible refine gate_dst (N := 3) rfl ?_); refine box_event ?hg (N := 3) ?hd (cs := #[.nilFunc]) (t := 33) ?hr ?_; (case hd => rfl); (case hg => rfl); (case hr => first | (go_simp; done) | (go_simp; rfl)); intro gb hgb w4 hbox hb; have hbc : w4.cell? ⟨gb, 0, none⟩ = some .nilFunc := (blk_cell hbox 0).trans rfl; have hbf : w4.frozen? ⟨gb, 0, none⟩ = false := blk_frozen hbox 0; have hlw4 : w.heap.size < gb := (by rw [hgb]; exact hlw); have hz34 : (w4.setCell ⟨gb, 0, none⟩ (.func (.func 27) #[] #[])).cell? ⟨w.heap.size, 3, none⟩ = some (.slice A0_3 l0_3.length c0_3) := (World.cell?_setCell_other _ _ _ _ (by intro h_; have h2_ := congrArg Addr.block h_; dsimp only at h2_; omega)).trans ((hb.cell hlw).trans hz3); have HQ1 := Aside0.mk (below_set (j := 0) (v := .func (.func 27) #[] #[]) (below_step HBC.out hb) (Nat.le_of_lt hlw4)); have HQ2 := Aside0.mk (World.cell?_setCell_same w4 ⟨gb, 0, none⟩ (.func (.func 27) #[] #[]) hbc); clear hgb hbox hb hlw4) | (go_at_call 28; (with_reducible refine (IR.out _ gb HQ1.out HQ2.out).mono ?_); rintro e wd ⟨rfl, hbd⟩; have HBD := Aside0.mk (below_step HQ1.out hbd); clear hbd))
  go_ret
  exact ⟨rfl, HBD.out⟩
end Go.Proofs.YtnednnnegofhkaaDoor.Pr
namespace Go.Proofs.YtnednnnegofhkaaDoor.Pr
open Go.RowKit Go.Proofs.YtnednnnegofhkaaDoorW.PrintWords Go.Proofs.YtnednnnegofhkaaDoorW.PrintLast Go.Proofs.YtnednnnegofhkaaDoorW.PrintMore
attribute [local go_sem] max2_int min2_int max_two min_two max_three min_three max_four min_four
set_option linter.unusedVariables false
set_option linter.unusedSimpArgs false
def IsS71 (w0 W : World) (g : Nat) (f0 : List Int) (f1 : Int) : Prop := ∃ A0 c0, W.heap[g]? = some (.cells #[.slice A0 f0.length c0, .int .i64 f1] 71 (0, 0)) ∧ w0.heap.size ≤ g ∧ Kd.C (Kd.int .u8) w0 A0 f0.length f0
theorem IsS71.grown {w0 W : World} {g : Nat} {f0 : List Int} {f1 : Int} {W1 : World} {row : Option Nat} (h : IsS71 w0 W g f0 f1) (hw : W.grownBy W1 row) (hne : some g ≠ row) : IsS71 w0 W1 g f0 f1 := by
  obtain ⟨A0, c0, hb, hg, hr0⟩ := h
  exact ⟨A0, c0, blk_grown hb hw hne, hg, hr0⟩
theorem IsS71.kept {w0 W : World} {g : Nat} {f0 : List Int} {f1 : Int} {W1 : World} {S : Nat → Prop} (h : IsS71 w0 W g f0 f1) (hk : Kept W W1 S) (hne : ¬ S g) : IsS71 w0 W1 g f0 f1 := by
  obtain ⟨A0, c0, hb, hg, hr0⟩ := h
  exact ⟨A0, c0, blk_kept hb hk hne, hg, hr0⟩
theorem IsS71.below {w0 W : World} {g : Nat} {f0 : List Int} {f1 : Int} {W1 : World} (h : IsS71 w0 W g f0 f1) (hw : Below W.heap.size W W1) : IsS71 w0 W1 g f0 f1 := h.grown (grown_of_below hw none) (by simp)
theorem IsS71.alloc {w0 W : World} {g : Nat} {f0 : List Int} {f1 : Int} (h : IsS71 w0 W g f0 f1) (o : Obj) : IsS71 w0 (W.alloc o) g f0 f1 := h.below (below_alloc (Below.refl _ _) o)
theorem IsS71.drewN {w0 W : World} {g : Nat} {f0 : List Int} {f1 : Int} (h : IsS71 w0 W g f0 f1) (m : Nat) : IsS71 w0 (W.drewN m) g f0 f1 := h
theorem IsS71.drew {w0 W : World} {g : Nat} {f0 : List Int} {f1 : Int} (h : IsS71 w0 W g f0 f1) : IsS71 w0 W.drew g f0 f1 := h
theorem IsS71.at_ {w0 W : World} {g : Nat} {f0 : List Int} {f1 : Int} {w' : World} {m : Nat} (hq : W.drewN m = w') (h : IsS71 w0 W g f0 f1) : IsS71 w0 w' g f0 f1 := by subst hq; exact IsS71.drewN h m
theorem IsS71.apart {w0 W : World} {g : Nat} {f0 : List Int} {f1 : Int} {α : Type} {d : Kd α} {e : Nat} {base : Nat} {ok : Nat → Prop} {v : Value} {xs : List α} (h : IsS71 w0 W g f0 f1) (ho : d.R e W base ok v xs) (ht : ∀ q, q ∈ e :: d.E → q ≠ 71) : d.R e W base (fun k => ok k ∧ k ≠ g) v xs := by
  obtain ⟨A0, c0, hb, hg, hr0⟩ := h
  exact Kd.R_types ho hb ht
theorem IsS71.own_ne {w0 W : World} {g : Nat} {f0 : List Int} {f1 : Int} {α : Type} {d : Kd α} {e : Nat} {base : Nat} {ok : Nat → Prop} {v : Value} {xs : List α} (h : IsS71 w0 W g f0 f1) (ho : d.R e W base ok v xs) (ht : e ≠ 71) : some g ≠ v.ownBlock := by
  obtain ⟨A0, c0, hb, hg, hr0⟩ := h
  exact Kd.R_ne ho hb ht
theorem IsS71.apartS {w0 W : World} {g : Nat} {f0 : List Int} {f1 : Int} {α : Type} {d : Kd α} {e : Nat} {base : Nat} {ok : Nat → Prop} {v : Value} {xs : List α} (h : IsS71 w0 W g f0 f1) (ho : d.S e W base ok v xs) (ht : ∀ q, q ∈ e :: d.E → q ≠ 71) : d.S e W base (fun k => ok k ∧ k ≠ g) v xs := by
  obtain ⟨A0, c0, hb, hg, hr0⟩ := h
  exact Kd.S_types ho hb ht
theorem IsS71.own_neS {w0 W : World} {g : Nat} {f0 : List Int} {f1 : Int} {α : Type} {d : Kd α} {e : Nat} {base : Nat} {ok : Nat → Prop} {v : Value} {xs : List α} (h : IsS71 w0 W g f0 f1) (ho : d.S e W base ok v xs) (ht : e ≠ 71) : some g ≠ v.ownBlock := by
  obtain ⟨A0, c0, hb, hg, hr0⟩ := h
  exact Kd.S_ne ho hb ht
theorem IsS71.lt {w0 W : World} {g : Nat} {f0 : List Int} {f1 : Int} (h : IsS71 w0 W g f0 f1) : g < W.heap.size := by
  obtain ⟨A0, c0, hb, hg, hr0⟩ := h
  exact blk_lt hb
theorem IsS71.ge {w0 W : World} {g : Nat} {f0 : List Int} {f1 : Int} (h : IsS71 w0 W g f0 f1) : w0.heap.size ≤ g := by
  obtain ⟨A0, c0, hb, hg, hr0⟩ := h
  exact hg
theorem IsS71.ne_blk {w0 W : World} {g : Nat} {f0 : List Int} {f1 : Int} {a : Nat} {cs : Array Value} {t : TypeId} {fr : Nat × Nat} (h : IsS71 w0 W g f0 f1) (hb2 : W.heap[a]? = some (.cells cs t fr)) (ht : t ≠ 71) : g ≠ a := by
  obtain ⟨A0, c0, hb, hg, hr0⟩ := h
  rintro rfl
  rw [hb] at hb2
  injection hb2 with hb2
  injection hb2 with _ ht2
  exact ht ht2.symm
theorem IsS71.far {w0 W : World} {g : Nat} {f0 : List Int} {f1 : Int} {p : Addr} (h : IsS71 w0 W g f0 f1) (hne : g ≠ p.block) (u : Value) : IsS71 w0 (W.setCell p u) g f0 f1 := by
  obtain ⟨A0, c0, hb, hg, hr0⟩ := h
  exact ⟨A0, c0, blk_far hb hne u, hg, hr0⟩
theorem cellS71_0 {W : World} {g : Nat} {A0 : Option Addr} {c0 : Nat} {f0 : List Int} {f1 : Int} (h : W.heap[g]? = some (.cells #[.slice A0 f0.length c0, .int .i64 f1] 71 (0, 0))) : W.cell? ⟨g, 0, none⟩ = some (.slice A0 f0.length c0) := (blk_cell h 0).trans rfl
theorem cellS71_1 {W : World} {g : Nat} {A0 : Option Addr} {c0 : Nat} {f0 : List Int} {f1 : Int} (h : W.heap[g]? = some (.cells #[.slice A0 f0.length c0, .int .i64 f1] 71 (0, 0))) : W.cell? ⟨g, 1, none⟩ = some (.int .i64 f1) := (blk_cell h 1).trans rfl
theorem IsS71.set_1 {w0 W : World} {g : Nat} {f0 : List Int} {f1 : Int} (h : IsS71 w0 W g f0 f1) (x : Int) : IsS71 w0 (W.setCell ⟨g, 1, none⟩ (.int .i64 x)) g f0 x := by
  obtain ⟨A0, c0, hb, hg, hr0⟩ := h
  exact ⟨A0, c0, by simpa using blk_set hb 1 (.int .i64 x), hg, hr0⟩
def spec_l20Rd_pick.j0 : Nat → Int → Bool → List Int → Int → Option (Int × Int)
  | 0, _, _, _, _ => none
  | k + 1, x1, x24, x1000, x1001 => if x24 = true then (some (0, x1001)) else (if (wrap64 (x1001 - 1)) < (x1000.length : Int) then (if 0 ≤ (wrap64 (x1001 - 1)) then (if x1 = 0 then (none) else (some (Int.tmod (wrap64 (rd x1000 (wrap64 (x1001 - 1)))) x1, x1001))) else (none)) else (if (x1000.length : Int) = 0 then (none) else (if 0 ≤ (Int.tmod (wrap64 (x1001 - 1)) (x1000.length : Int)) then (if (Int.tmod (wrap64 (x1001 - 1)) (x1000.length : Int)) < (x1000.length : Int) then (if 0 ≤ (Int.tmod (wrap64 ((wrap64 ((wrap64 (x1001 - 1)) * 7)) + 3)) (x1000.length : Int)) then (if (Int.tmod (wrap64 ((wrap64 ((wrap64 (x1001 - 1)) * 7)) + 3)) (x1000.length : Int)) < (x1000.length : Int) then (if x1 = 0 then (none) else (some (Int.tmod (Go.bits .xor .i64 (wrap64 ((wrap64 ((wrap64 ((wrap64 ((wrap64 (rd x1000 (Int.tmod (wrap64 (x1001 - 1)) (x1000.length : Int)))) * 131)) + (wrap64 ((wrap64 (rd x1000 (Int.tmod (wrap64 ((wrap64 ((wrap64 (x1001 - 1)) * 7)) + 3)) (x1000.length : Int)))) * 1117)))) + (wrap64 ((wrap64 (x1001 - 1)) * 29)))) + (wrap64 ((wrap64 (Int.tdiv (wrap64 (x1001 - 1)) (x1000.length : Int))) * 53)))) (wrap64 (Int.tdiv (wrap64 ((wrap64 ((wrap64 ((wrap64 ((wrap64 (rd x1000 (Int.tmod (wrap64 (x1001 - 1)) (x1000.length : Int)))) * 131)) + (wrap64 ((wrap64 (rd x1000 (Int.tmod (wrap64 ((wrap64 ((wrap64 (x1001 - 1)) * 7)) + 3)) (x1000.length : Int)))) * 1117)))) + (wrap64 ((wrap64 (x1001 - 1)) * 29)))) + (wrap64 ((wrap64 (Int.tdiv (wrap64 (x1001 - 1)) (x1000.length : Int))) * 53)))) 64))) x1, x1001))) else (none)) else (none)) else (none)) else (none))))
def spec_l20Rd_pick.f (k : Nat) (s0_0 : List Int) (s0_1 : Int) (a1 : Int) : Option (Int × Int) := if a1 < 1 then (spec_l20Rd_pick.j0 k a1 true s0_0 (wrap64 (s0_1 + 1))) else (spec_l20Rd_pick.j0 k a1 ((s0_0.length : Int) == 0) s0_0 (wrap64 (s0_1 + 1)))
theorem spec_l20Rd_pick.mono_l : ∀ k, (∀ y0 y1 y2 y3, LeO (spec_l20Rd_pick.j0 k y0 y1 y2 y3) (spec_l20Rd_pick.j0 (k + 1) y0 y1 y2 y3))
  | 0 => fun _ _ _ _ r h => by simp [spec_l20Rd_pick.j0] at h
  | k + 1 => by
    have ih0 := spec_l20Rd_pick.mono_l k
    · intro y0 y1 y2 y3
      unfold spec_l20Rd_pick.j0
      repeat' first
      | (with_reducible exact ih0 _ _ _ _)
      | (with_reducible exact LeO.refl _)
      | (with_reducible exact LeO.none _)
      | (with_reducible refine LeO.ite ?_ ?_)
      | (with_reducible refine LeO.bind ?_ (fun _ => ?_))
      | exact ih0 _ _ _ _
      | exact LeO.none _
      | refine LeO.ite ?_ ?_
      | refine LeO.bind ?_ (fun _ => ?_)
theorem spec_l20Rd_pick.mono : ∀ a0 a1 a2 k, LeO (spec_l20Rd_pick.f k a0 a1 a2) (spec_l20Rd_pick.f (k + 1) a0 a1 a2) := by
  intro a0 a1 a2 k
  have ih0 := spec_l20Rd_pick.mono_l k
  unfold spec_l20Rd_pick.f
  repeat' first
      | (with_reducible exact ih0 _ _ _ _)
      | (with_reducible exact LeO.refl _)
      | (with_reducible exact LeO.none _)
      | (with_reducible refine LeO.ite ?_ ?_)
      | (with_reducible refine LeO.bind ?_ (fun _ => ?_))
      | exact ih0 _ _ _ _
      | exact LeO.none _
      | refine LeO.ite ?_ ?_
      | refine LeO.bind ?_ (fun _ => ?_)
set_option maxHeartbeats 8000000 in
set_option maxRecDepth 100000 in
theorem spec_l20Rd_pick.calls (k : Nat) (g : Nat) (s0_0 : List Int) (s0_1 : Int) (a1 : Int) (r1 : Int) (r2 : Int) (w0 w : World) (hI : IsS71 w0 w g s0_0 s0_1) (hB : Below w0.heap.size w0 w) (h : spec_l20Rd_pick.f k s0_0 s0_1 a1 = some (r1, r2)) :
  Calls Tryd.prog 34 #[.pointer (some ⟨g, 0, none⟩), .int .i64 a1] w fun e w' => e = .returned (.int .i64 r1) ∧ IsS71 w0 w' g s0_0 r2 ∧ Below w0.heap.size w0 w' ∧ KeepBut w w' g none := by
 have HI0 := Aside0.mk hI
 have HK := Aside0.mk (KeepBut.refl w g none)
 have HL := Aside0.mk hB.size
 clear hI
 have HW0 := Aside0.mk hB.size
 have HB := Aside0.mk hB
 clear hB
 have H := h
 unfold spec_l20Rd_pick.f at H
 clear h
 have HC3 := Aside0.mk H
 clear H
 obtain ⟨a3, a5, an, aJ, aY⟩ := HI0.out
 have ay := cellS71_0 an
 have aD := cellS71_1 an
 have aA := blk_frozen an 1
 clear an aJ
 go_enter Tryd.func34, Tryd.ntmps34
 go_upto_region 2 with (fail)
 repeat (go_quiet (fail); go_upto_region 2 with (fail))
 go_cut [24] (fun v24 wc => ∃ (kq : Nat) (ad : Bool), v24 = .bool ad ∧ Aside0 (spec_l20Rd_pick.j0 kq a1 ad s0_0 (wrap64 (s0_1 + 1)) = some (r1, r2)) ∧ Aside0 (kq ≤ k) ∧ Aside0 (IsS71 w0 wc g s0_0 (wrap64 (s0_1 + 1))) ∧ Aside0 (KeepBut w wc g none) ∧ Aside0 (Below w0.heap.size w0 wc))
 case first =>
  have H := HC3.out
  clear HC3
  by_cases c5 : a1 < 1
  ·rw [if_pos c5] at H
   have ac : decide (a1 < 1) = true := decide_eq_true c5
   clear c5
   (first | rw [ac] | (simp only [i64_w, i32_w]; rw [ac]) | skip)
   have H' := Aside0.mk H
   clear H
   go_wp2
   repeat (go_quiet (fail); try go_wp2)
   go_meet
   case rel => exact ⟨_, (true), (by first | rfl | (simp; done) | (simp [*]; done)), H', ⟨by first | omega | exact Nat.le_refl _⟩, ⟨by repeat (first | (with_reducible first | exact HI0.out | apply IsS71.alloc | apply IsS71.drewN | apply IsS71.drew | apply IsS71.set_1) | exact HI0.out)⟩, ⟨by repeat (first | (with_reducible first | exact HK.out | apply KeepBut.set_ | apply keep_drewN | apply keep_drew | apply keep_alloc) | exact HK.out)⟩, ⟨by repeat (first | (with_reducible first | exact HB.out | apply below_alloc | apply pw_below_drewN | apply below_drew1 | refine below_set ?_ (IsS71.ge HI0.out)) | exact HB.out)⟩⟩
  ·rw [if_neg c5] at H
   have ac : decide (a1 < 1) = false := decide_eq_false c5
   clear c5
   (first | rw [ac] | (simp only [i64_w, i32_w]; rw [ac]) | skip)
   have H' := Aside0.mk H
   clear H
   obtain ⟨aZ, a4, al, aK, a6⟩ := HI0.out
   have aB := cellS71_0 al
   have aC := cellS71_1 al
   have aE := blk_frozen al 1
   clear al aK
   go_wp2
   repeat (go_quiet (fail); try go_wp2)
   go_meet
   case rel => exact ⟨_, (((s0_0.length : Int) == 0)), (by first | rfl | (simp; done) | (simp [*]; done)), H', ⟨by first | omega | exact Nat.le_refl _⟩, ⟨by repeat (first | (with_reducible first | exact HI0.out | apply IsS71.alloc | apply IsS71.drewN | apply IsS71.drew | apply IsS71.set_1) | exact HI0.out)⟩, ⟨by repeat (first | (with_reducible first | exact HK.out | apply KeepBut.set_ | apply keep_drewN | apply keep_drew | apply keep_alloc) | exact HK.out)⟩, ⟨by repeat (first | (with_reducible first | exact HB.out | apply below_alloc | apply pw_below_drewN | apply below_drew1 | refine below_set ?_ (IsS71.ge HI0.out)) | exact HB.out)⟩⟩
 case rest =>
  clear HC3
  try clear p2
  try clear c3
  try clear c5
  try clear ac
  try clear p6
  try clear ay
  try clear aD
  try clear aB
  try clear aC
  try clear aA
  try clear aE
  obtain ⟨kq, ad, rfl, HA, HJ2, HI0, HK, HB⟩ := hcut
  cases kq with
  | zero => exact absurd HA.out (by simp [spec_l20Rd_pick.j0])
  | succ kj2 =>
   have H := HA.out
   clear HA
   simp only [spec_l20Rd_pick.j0] at H
   by_cases c7 : ad = true
   ·subst c7
    have H1 : (some (0, (wrap64 (s0_1 + 1)))) = some (r1, r2) := by rw [if_pos rfl] at H; exact H
    clear H
    have H := H1
    clear H1
    simp only [Option.some.injEq, Prod.mk.injEq] at H
    obtain ⟨rfl, rfl⟩ := H
    go_wp2
    repeat (go_quiet (fail); try go_wp2)
    go_ret
    exact ⟨by first | rfl | (simp [errW_none, errW_some] <;> rfl) | (simp [*, errW_none, errW_some] <;> rfl), by repeat (first | (with_reducible first | exact HI0.out | apply IsS71.alloc | apply IsS71.drewN | apply IsS71.drew | apply IsS71.set_1) | exact HI0.out), by repeat (first | (with_reducible first | exact HB.out | apply below_alloc | apply pw_below_drewN | apply below_drew1 | refine below_set ?_ (IsS71.ge HI0.out)) | exact HB.out), by repeat (first | (with_reducible first | exact HK.out | apply KeepBut.set_ | apply keep_drewN | apply keep_drew | apply keep_alloc) | exact HK.out)⟩
   ·replace c7 := Bool.eq_false_iff.mpr c7
    subst c7
    have H1 : (if (wrap64 ((wrap64 (s0_1 + 1)) - 1)) < (s0_0.length : Int) then (if 0 ≤ (wrap64 ((wrap64 (s0_1 + 1)) - 1)) then (if a1 = 0 then (none) else (some (Int.tmod (wrap64 (rd s0_0 (wrap64 ((wrap64 (s0_1 + 1)) - 1)))) a1, (wrap64 (s0_1 + 1))))) else (none)) else (if (s0_0.length : Int) = 0 then (none) else (if 0 ≤ (Int.tmod (wrap64 ((wrap64 (s0_1 + 1)) - 1)) (s0_0.length : Int)) then (if (Int.tmod (wrap64 ((wrap64 (s0_1 + 1)) - 1)) (s0_0.length : Int)) < (s0_0.length : Int) then (if 0 ≤ (Int.tmod (wrap64 ((wrap64 ((wrap64 ((wrap64 (s0_1 + 1)) - 1)) * 7)) + 3)) (s0_0.length : Int)) then (if (Int.tmod (wrap64 ((wrap64 ((wrap64 ((wrap64 (s0_1 + 1)) - 1)) * 7)) + 3)) (s0_0.length : Int)) < (s0_0.length : Int) then (if a1 = 0 then (none) else (some (Int.tmod (Go.bits .xor .i64 (wrap64 ((wrap64 ((wrap64 ((wrap64 ((wrap64 (rd s0_0 (Int.tmod (wrap64 ((wrap64 (s0_1 + 1)) - 1)) (s0_0.length : Int)))) * 131)) + (wrap64 ((wrap64 (rd s0_0 (Int.tmod (wrap64 ((wrap64 ((wrap64 ((wrap64 (s0_1 + 1)) - 1)) * 7)) + 3)) (s0_0.length : Int)))) * 1117)))) + (wrap64 ((wrap64 ((wrap64 (s0_1 + 1)) - 1)) * 29)))) + (wrap64 ((wrap64 (Int.tdiv (wrap64 ((wrap64 (s0_1 + 1)) - 1)) (s0_0.length : Int))) * 53)))) (wrap64 (Int.tdiv (wrap64 ((wrap64 ((wrap64 ((wrap64 ((wrap64 (rd s0_0 (Int.tmod (wrap64 ((wrap64 (s0_1 + 1)) - 1)) (s0_0.length : Int)))) * 131)) + (wrap64 ((wrap64 (rd s0_0 (Int.tmod (wrap64 ((wrap64 ((wrap64 ((wrap64 (s0_1 + 1)) - 1)) * 7)) + 3)) (s0_0.length : Int)))) * 1117)))) + (wrap64 ((wrap64 ((wrap64 (s0_1 + 1)) - 1)) * 29)))) + (wrap64 ((wrap64 (Int.tdiv (wrap64 ((wrap64 (s0_1 + 1)) - 1)) (s0_0.length : Int))) * 53)))) 64))) a1, (wrap64 (s0_1 + 1))))) else (none)) else (none)) else (none)) else (none)))) = some (r1, r2) := by rw [if_neg (show ¬ (false = true) by decide)] at H; exact H
    clear H
    have H := H1
    clear H1
    by_cases c8 : (wrap64 ((wrap64 (s0_1 + 1)) - 1)) < (s0_0.length : Int)
    ·rw [if_pos c8] at H
     have az : decide ((wrap64 ((wrap64 (s0_1 + 1)) - 1)) < (s0_0.length : Int)) = true := decide_eq_true c8
     clear c8
     obtain ⟨ji9, ag⟩ : ∃ j_ : Int, (wrap64 ((wrap64 (s0_1 + 1)) - 1)) = j_ := ⟨_, rfl⟩
     replace H : (if 0 ≤ (ji9) then (if a1 = 0 then (none) else (some (Int.tmod (wrap64 (rd s0_0 (ji9))) a1, (wrap64 (s0_1 + 1))))) else (none)) = some (r1, r2) := by first | (rw [ag] at H; exact H) | (simp only [ag] at H ⊢; exact H)
     (try rw [ag] at az)
     have hji9w : (IntKind.i64.wrap ((wrap64 (s0_1 + 1)) - 1)) = ji9 := (i64_w _).trans ag
     by_cases c10 : 0 ≤ (ji9)
     ·rw [if_pos c10] at H
      have c10b0 : decide (0 ≤ (ji9)) = true := decide_eq_true c10
      clear c10
      by_cases c11 : a1 = 0
      ·rw [if_pos c11] at H
       exact absurd H (by simp)
      ·rw [if_neg c11] at H
       have c11b0 : (a1 == 0) = false := beq_eq_false_iff_ne.mpr c11
       have c11b1 : (a1 != 0) = true := bne_iff_ne.mpr c11
       simp only [Option.some.injEq, Prod.mk.injEq] at H
       obtain ⟨rfl, rfl⟩ := H
       obtain ⟨aS, aT, ae, aG, ax⟩ := HI0.out
       have aR := cellS71_0 ae
       have aU := cellS71_1 ae
       have aW := blk_frozen ae 1
       clear ae aG
       have av : 0 ≤ ((ji9) : Int) := of_decide_eq_true (by first | (with_reducible assumption) | assumption)
       have ar : (ji9) < (s0_0.length : Int) := of_decide_eq_true (by first | (with_reducible assumption) | assumption)
       obtain ⟨ad101, aL, ah⟩ := Kd.at_int ax (ji9) av ar
       cases aL
       replace ah := pw_cell_below HB.out ah
       replace av := eq_true av
       replace ar := eq_true ar
       go_wp2
       repeat (go_quiet (fail); try go_wp2)
       go_ret
       exact ⟨by first | rfl | (simp [errW_none, errW_some] <;> rfl) | (simp only [← ag]; first | rfl | (simp [errW_none, errW_some] <;> rfl)) | (simp [*, errW_none, errW_some] <;> rfl), by repeat (first | (with_reducible first | exact HI0.out | apply IsS71.alloc | apply IsS71.drewN | apply IsS71.drew | apply IsS71.set_1) | exact HI0.out), by repeat (first | (with_reducible first | exact HB.out | apply below_alloc | apply pw_below_drewN | apply below_drew1 | refine below_set ?_ (IsS71.ge HI0.out)) | exact HB.out), by repeat (first | (with_reducible first | exact HK.out | apply KeepBut.set_ | apply keep_drewN | apply keep_drew | apply keep_alloc) | exact HK.out)⟩
     ·rw [if_neg c10] at H
      exact absurd H (by simp)
    ·rw [if_neg c8] at H
     have az : decide ((wrap64 ((wrap64 (s0_1 + 1)) - 1)) < (s0_0.length : Int)) = false := decide_eq_false c8
     clear c8
     by_cases c13 : (s0_0.length : Int) = 0
     ·rw [if_pos c13] at H
      exact absurd H (by simp)
     ·rw [if_neg c13] at H
      have c13b0 : ((s0_0.length : Int) == 0) = false := beq_eq_false_iff_ne.mpr c13
      have c13b1 : ((s0_0.length : Int) != 0) = true := bne_iff_ne.mpr c13
      have c13b2 : ¬ (s0_0 = []) := fun h_ => c13 (by rw [h_]; rfl)
      obtain ⟨aa, am⟩ : ∃ j_ : Int, (Int.tmod (wrap64 ((wrap64 (s0_1 + 1)) - 1)) (s0_0.length : Int)) = j_ := ⟨_, rfl⟩
      replace H : (if 0 ≤ (aa) then (if (aa) < (s0_0.length : Int) then (if 0 ≤ (Int.tmod (wrap64 ((wrap64 ((wrap64 ((wrap64 (s0_1 + 1)) - 1)) * 7)) + 3)) (s0_0.length : Int)) then (if (Int.tmod (wrap64 ((wrap64 ((wrap64 ((wrap64 (s0_1 + 1)) - 1)) * 7)) + 3)) (s0_0.length : Int)) < (s0_0.length : Int) then (if a1 = 0 then (none) else (some (Int.tmod (Go.bits .xor .i64 (wrap64 ((wrap64 ((wrap64 ((wrap64 ((wrap64 (rd s0_0 (aa))) * 131)) + (wrap64 ((wrap64 (rd s0_0 (Int.tmod (wrap64 ((wrap64 ((wrap64 ((wrap64 (s0_1 + 1)) - 1)) * 7)) + 3)) (s0_0.length : Int)))) * 1117)))) + (wrap64 ((wrap64 ((wrap64 (s0_1 + 1)) - 1)) * 29)))) + (wrap64 ((wrap64 (Int.tdiv (wrap64 ((wrap64 (s0_1 + 1)) - 1)) (s0_0.length : Int))) * 53)))) (wrap64 (Int.tdiv (wrap64 ((wrap64 ((wrap64 ((wrap64 ((wrap64 (rd s0_0 (aa))) * 131)) + (wrap64 ((wrap64 (rd s0_0 (Int.tmod (wrap64 ((wrap64 ((wrap64 ((wrap64 (s0_1 + 1)) - 1)) * 7)) + 3)) (s0_0.length : Int)))) * 1117)))) + (wrap64 ((wrap64 ((wrap64 (s0_1 + 1)) - 1)) * 29)))) + (wrap64 ((wrap64 (Int.tdiv (wrap64 ((wrap64 (s0_1 + 1)) - 1)) (s0_0.length : Int))) * 53)))) 64))) a1, (wrap64 (s0_1 + 1))))) else (none)) else (none)) else (none)) else (none)) = some (r1, r2) := by first | (rw [am] at H; exact H) | (simp only [am] at H ⊢; exact H)
      by_cases c15 : 0 ≤ (aa)
      ·rw [if_pos c15] at H
       have c15b0 : decide (0 ≤ (aa)) = true := decide_eq_true c15
       clear c15
       by_cases c16 : (aa) < (s0_0.length : Int)
       ·rw [if_pos c16] at H
        have c16b0 : decide ((aa) < (s0_0.length : Int)) = true := decide_eq_true c16
        clear c16
        obtain ⟨ab, ao⟩ : ∃ j_ : Int, (Int.tmod (wrap64 ((wrap64 ((wrap64 ((wrap64 (s0_1 + 1)) - 1)) * 7)) + 3)) (s0_0.length : Int)) = j_ := ⟨_, rfl⟩
        replace H : (if 0 ≤ (ab) then (if (ab) < (s0_0.length : Int) then (if a1 = 0 then (none) else (some (Int.tmod (Go.bits .xor .i64 (wrap64 ((wrap64 ((wrap64 ((wrap64 ((wrap64 (rd s0_0 (aa))) * 131)) + (wrap64 ((wrap64 (rd s0_0 (ab))) * 1117)))) + (wrap64 ((wrap64 ((wrap64 (s0_1 + 1)) - 1)) * 29)))) + (wrap64 ((wrap64 (Int.tdiv (wrap64 ((wrap64 (s0_1 + 1)) - 1)) (s0_0.length : Int))) * 53)))) (wrap64 (Int.tdiv (wrap64 ((wrap64 ((wrap64 ((wrap64 ((wrap64 (rd s0_0 (aa))) * 131)) + (wrap64 ((wrap64 (rd s0_0 (ab))) * 1117)))) + (wrap64 ((wrap64 ((wrap64 (s0_1 + 1)) - 1)) * 29)))) + (wrap64 ((wrap64 (Int.tdiv (wrap64 ((wrap64 (s0_1 + 1)) - 1)) (s0_0.length : Int))) * 53)))) 64))) a1, (wrap64 (s0_1 + 1))))) else (none)) else (none)) = some (r1, r2) := by first | (rw [ao] at H; exact H) | (simp only [ao] at H ⊢; exact H)
        by_cases c18 : 0 ≤ (ab)
        ·rw [if_pos c18] at H
         have c18b0 : decide (0 ≤ (ab)) = true := decide_eq_true c18
         clear c18
         by_cases c19 : (ab) < (s0_0.length : Int)
         ·rw [if_pos c19] at H
          have c19b0 : decide ((ab) < (s0_0.length : Int)) = true := decide_eq_true c19
          clear c19
          by_cases c20 : a1 = 0
          ·rw [if_pos c20] at H
           exact absurd H (by simp)
          ·rw [if_neg c20] at H
           have c20b0 : (a1 == 0) = false := beq_eq_false_iff_ne.mpr c20
           have c20b1 : (a1 != 0) = true := bne_iff_ne.mpr c20
           simp only [Option.some.injEq, Prod.mk.injEq] at H
           obtain ⟨rfl, rfl⟩ := H
           obtain ⟨aP, aQ, af, aF, ai⟩ := HI0.out
           have aV := cellS71_0 af
           have aO := cellS71_1 af
           have aX := blk_frozen af 1
           clear af aF
           have aw : 0 ≤ ((aa) : Int) := of_decide_eq_true (by first | (with_reducible assumption) | assumption)
           have au : (aa) < (s0_0.length : Int) := of_decide_eq_true (by first | (with_reducible assumption) | assumption)
           obtain ⟨aH, aM, ak⟩ := Kd.at_int ai (aa) aw au
           cases aM
           replace ak := pw_cell_below HB.out ak
           replace aw := eq_true aw
           replace au := eq_true au
           have ap : 0 ≤ ((ab) : Int) := of_decide_eq_true (by first | (with_reducible assumption) | assumption)
           have aq : (ab) < (s0_0.length : Int) := of_decide_eq_true (by first | (with_reducible assumption) | assumption)
           obtain ⟨aI, aN, aj⟩ := Kd.at_int ai (ab) ap aq
           obtain rfl : aH = aI := (by injection aN)
           replace aj := pw_cell_below HB.out aj
           replace ap := eq_true ap
           replace aq := eq_true aq
           go_wp2
           repeat (go_quiet (fail); try go_wp2)
           go_ret
           exact ⟨by first | rfl | (simp [errW_none, errW_some] <;> rfl) | (simp only [← am, ← ao]; first | rfl | (simp [errW_none, errW_some] <;> rfl)) | (simp [*, errW_none, errW_some] <;> rfl), by repeat (first | (with_reducible first | exact HI0.out | apply IsS71.alloc | apply IsS71.drewN | apply IsS71.drew | apply IsS71.set_1) | exact HI0.out), by repeat (first | (with_reducible first | exact HB.out | apply below_alloc | apply pw_below_drewN | apply below_drew1 | refine below_set ?_ (IsS71.ge HI0.out)) | exact HB.out), by repeat (first | (with_reducible first | exact HK.out | apply KeepBut.set_ | apply keep_drewN | apply keep_drew | apply keep_alloc) | exact HK.out)⟩
         ·rw [if_neg c19] at H
          exact absurd H (by simp)
        ·rw [if_neg c18] at H
         exact absurd H (by simp)
       ·rw [if_neg c16] at H
        exact absurd H (by simp)
      ·rw [if_neg c15] at H
       exact absurd H (by simp)
end Go.Proofs.YtnednnnegofhkaaDoor.Pr
namespace Go.Proofs.YtnednnnegofhkaaDoor.Pr
open Go.RowKit Go.Proofs.YtnednnnegofhkaaDoorW.PrintWords Go.Proofs.YtnednnnegofhkaaDoorW.PrintLast Go.Proofs.YtnednnnegofhkaaDoorW.PrintMore
attribute [local go_sem] max2_int min2_int max_two min_two max_three min_three max_four min_four
set_option linter.unusedVariables false
set_option linter.unusedSimpArgs false
def spec_l20Text.l0 : Nat → List ByteArray → ByteArray → Int → List Int → Int → Option (ByteArray × Int)
  | 0, _, _, _, _, _ => none
  | k + 1, x3, x4, x5, x1000, x1001 => if x5 > 0 then ((spec_l20Rd_pick.f k x1000 x1001 (x3.length : Int)).bind fun bt136 => (if 0 ≤ bt136.1 then (if bt136.1 < (x3.length : Int) then (if x4.toList = ([] : List UInt8) then (spec_l20Text.l0 k x3 (rdOf ByteArray.empty x3 bt136.1) (wrap64 (x5 - 1)) x1000 bt136.2) else (if (wrap64 ((wrap64 ((x4.size : Int) + 1)) + ((rdOf ByteArray.empty x3 bt136.1).size : Int))) ≤ 30 then (if x4.size + 1 ≤ 9223372036854775807 then (if (x4 ++ (⟨#[32]⟩ : ByteArray)).size + (rdOf ByteArray.empty x3 bt136.1).size ≤ 9223372036854775807 then (spec_l20Text.l0 k x3 ((x4 ++ (⟨#[32]⟩ : ByteArray)) ++ (rdOf ByteArray.empty x3 bt136.1)) (wrap64 (x5 - 1)) x1000 bt136.2) else (none)) else (none)) else (spec_l20Text.l0 k x3 x4 (wrap64 (x5 - 1)) x1000 bt136.2))) else (none)) else (none))) else (some (x4, x1001))
def spec_l20Text.f (k : Nat) (s0_0 : List Int) (s0_1 : Int) : Option (ByteArray × Int) := (spec_l20Rd_pick.f k s0_0 s0_1 6).bind fun bt134 => (spec_l20Text.l0 k (([(⟨#[97]⟩ : ByteArray), (⟨#[97, 110]⟩ : ByteArray), (⟨#[116, 104, 101]⟩ : ByteArray), (⟨#[111, 118, 101, 114]⟩ : ByteArray), (⟨#[117, 110, 100, 101, 114]⟩ : ByteArray), (⟨#[109, 101, 97, 100, 111, 119]⟩ : ByteArray), (⟨#[108, 105, 103, 104, 116, 104, 111, 117, 115, 101]⟩ : ByteArray)] : List ByteArray)) (⟨#[]⟩ : ByteArray) bt134.1 s0_0 bt134.2)
theorem spec_l20Text.mono_l : ∀ k, (∀ y0 y1 y2 y3 y4, LeO (spec_l20Text.l0 k y0 y1 y2 y3 y4) (spec_l20Text.l0 (k + 1) y0 y1 y2 y3 y4))
  | 0 => fun _ _ _ _ _ r h => by simp [spec_l20Text.l0] at h
  | k + 1 => by
    have ih0 := spec_l20Text.mono_l k
    · intro y0 y1 y2 y3 y4
      unfold spec_l20Text.l0
      repeat' first
      | (with_reducible exact ih0 _ _ _ _ _)
      | (with_reducible exact spec_l20Rd_pick.mono _ _ _ _)
      | (with_reducible exact LeO.refl _)
      | (with_reducible exact LeO.none _)
      | (with_reducible refine LeO.ite ?_ ?_)
      | (with_reducible refine LeO.bind ?_ (fun _ => ?_))
      | exact ih0 _ _ _ _ _
      | exact spec_l20Rd_pick.mono _ _ _ _
      | exact LeO.none _
      | refine LeO.ite ?_ ?_
      | refine LeO.bind ?_ (fun _ => ?_)
theorem spec_l20Text.mono : ∀ a0 a1 k, LeO (spec_l20Text.f k a0 a1) (spec_l20Text.f (k + 1) a0 a1) := by
  intro a0 a1 k
  have ih0 := spec_l20Text.mono_l k
  unfold spec_l20Text.f
  repeat' first
      | (with_reducible exact ih0 _ _ _ _ _)
      | (with_reducible exact spec_l20Rd_pick.mono _ _ _ _)
      | (with_reducible exact LeO.refl _)
      | (with_reducible exact LeO.none _)
      | (with_reducible refine LeO.ite ?_ ?_)
      | (with_reducible refine LeO.bind ?_ (fun _ => ?_))
      | exact ih0 _ _ _ _ _
      | exact spec_l20Rd_pick.mono _ _ _ _
      | exact LeO.none _
      | refine LeO.ite ?_ ?_
      | refine LeO.bind ?_ (fun _ => ?_)
abbrev qa54 := @Aside0.mk
set_option maxHeartbeats 8000000 in
set_option maxRecDepth 100000 in
theorem spec_l20Text.calls (k : Nat) (g : Nat) (s0_0 : List Int) (s0_1 : Int) (r1 : ByteArray) (r2 : Int) (w0 w : World) (hI : IsS71 w0 w g s0_0 s0_1) (hB : Below w0.heap.size w0 w) (h : spec_l20Text.f k s0_0 s0_1 = some (r1, r2)) :
  Calls Tryd.prog 54 #[.pointer (some ⟨g, 0, none⟩)] w fun e w' => e = .returned (.string r1) ∧ IsS71 w0 w' g s0_0 r2 ∧ Below w0.heap.size w0 w' ∧ KeepBut w w' g none := by
 have HI0 := qa54 hI
 have HK := qa54 (KeepBut.refl w g none)
 have HL := qa54 hB.size
 clear hI
 have HW0 := qa54 hB.size
 have HB := qa54 hB
 clear hB
 have H := h
 unfold spec_l20Text.f at H
 clear h
 obtain ⟨ab, ai⟩ : ∃ y_ : List ByteArray, y_ = (([(⟨#[97]⟩ : ByteArray), (⟨#[97, 110]⟩ : ByteArray), (⟨#[116, 104, 101]⟩ : ByteArray), (⟨#[111, 118, 101, 114]⟩ : ByteArray), (⟨#[117, 110, 100, 101, 114]⟩ : ByteArray), (⟨#[109, 101, 97, 100, 111, 119]⟩ : ByteArray), (⟨#[108, 105, 103, 104, 116, 104, 111, 117, 115, 101]⟩ : ByteArray)] : List ByteArray)) := ⟨_, rfl⟩
 replace H : ((spec_l20Rd_pick.f k s0_0 s0_1 6).bind fun bt134 => (spec_l20Text.l0 k ab (⟨#[]⟩ : ByteArray) bt134.1 s0_0 bt134.2)) = some (r1, r2) := by first | (rw [ai]; with_reducible exact H) | (have H2_ := (Option.bind_some _ _).symm.trans H; rw [ai]; with_reducible exact H2_) | (have H2_ := (Option.bind_some _ _).symm.trans H; with_reducible exact H2_) | with_reducible exact H | (rw [ai]; exact H) | exact H
 have an := qa54 ai
 clear ai
 replace H := Option.bind_eq_some_iff.mp H
 obtain ⟨⟨ar, aq⟩, A20, H⟩ := H
 (try dsimp only at H)
 have A2 := qa54 A20
 clear A20
 have H' := qa54 H
 clear H
 go_enter Tryd.func54, Tryd.ntmps54
 go_wp2_with (first | ((with_reducible refine gate_dst (N := 7) rfl ?_); refine Kd.R_lit Kd.string _ 9 ?hg (N := 7) ?hd (xs := ([(⟨#[97]⟩ : ByteArray), (⟨#[97, 110]⟩ : ByteArray), (⟨#[116, 104, 101]⟩ : ByteArray), (⟨#[111, 118, 101, 114]⟩ : ByteArray), (⟨#[117, 110, 100, 101, 114]⟩ : ByteArray), (⟨#[109, 101, 97, 100, 111, 119]⟩ : ByteArray), (⟨#[108, 105, 103, 104, 116, 104, 111, 117, 115, 101]⟩ : ByteArray)] : List ByteArray)) (inner := [.string (⟨#[97]⟩ : ByteArray), .string (⟨#[97, 110]⟩ : ByteArray), .string (⟨#[116, 104, 101]⟩ : ByteArray), .string (⟨#[111, 118, 101, 114]⟩ : ByteArray), .string (⟨#[117, 110, 100, 101, 114]⟩ : ByteArray), .string (⟨#[109, 101, 97, 100, 111, 119]⟩ : ByteArray), .string (⟨#[108, 105, 103, 104, 116, 104, 111, 117, 115, 101]⟩ : ByteArray)]) (ok := fun _ => True) (okp := fun _ => True) ?hr ?hp (fun _ hk => hk) trivial (Below.refl _ _) (Nat.le_refl _) (by simp) ?_; (case hd => rfl); (case hg => rfl); (case hr => go_simp <;> rfl); (case hp => exact (Reps.one (show Kd.M Kd.string _ _ _ (⟨#[97]⟩ : ByteArray) [.string (⟨#[97]⟩ : ByteArray)] from rfl) (Reps.one (show Kd.M Kd.string _ _ _ (⟨#[97, 110]⟩ : ByteArray) [.string (⟨#[97, 110]⟩ : ByteArray)] from rfl) (Reps.one (show Kd.M Kd.string _ _ _ (⟨#[116, 104, 101]⟩ : ByteArray) [.string (⟨#[116, 104, 101]⟩ : ByteArray)] from rfl) (Reps.one (show Kd.M Kd.string _ _ _ (⟨#[111, 118, 101, 114]⟩ : ByteArray) [.string (⟨#[111, 118, 101, 114]⟩ : ByteArray)] from rfl) (Reps.one (show Kd.M Kd.string _ _ _ (⟨#[117, 110, 100, 101, 114]⟩ : ByteArray) [.string (⟨#[117, 110, 100, 101, 114]⟩ : ByteArray)] from rfl) (Reps.one (show Kd.M Kd.string _ _ _ (⟨#[109, 101, 97, 100, 111, 119]⟩ : ByteArray) [.string (⟨#[109, 101, 97, 100, 111, 119]⟩ : ByteArray)] from rfl) (Reps.one (show Kd.M Kd.string _ _ _ (⟨#[108, 105, 103, 104, 116, 104, 111, 117, 115, 101]⟩ : ByteArray) [.string (⟨#[108, 105, 103, 104, 116, 104, 111, 117, 115, 101]⟩ : ByteArray)] from rfl) (Reps.none _ _))))))))); intro aA w3 ho4 hb hg_ hnew_; clear hg_ hnew_; (first | rw [← an.out] at ho4 | (simp only [Int.reduceToNat] at ho4; rw [← an.out] at ho4)); have n0_ := qa54 (Kd.R_lower ho4 (keep_size (w := w) (g := g) (row := none) (by repeat (first | (with_reducible first | exact HK.out | apply KeepBut.set_ | apply keep_drewN | apply keep_drew | apply keep_alloc) | exact HK.out)))); have n1_ := qa54 (IsS71.below (by repeat (first | (with_reducible first | exact HI0.out | apply IsS71.alloc | apply IsS71.drewN | apply IsS71.drew | apply IsS71.set_1) | exact HI0.out)) hb); have n2_ := qa54 (KeepBut.trans (by repeat (first | (with_reducible first | exact HK.out | apply KeepBut.set_ | apply keep_drewN | apply keep_drew | apply keep_alloc) | exact HK.out)) (KeepBut.of_below hb g none) (.inl rfl)); have n3_ := qa54 (below_step (by repeat (first | (with_reducible first | exact HB.out | apply below_alloc | apply pw_below_drewN | apply below_drew1 | refine below_set ?_ (IsS71.ge HI0.out)) | exact HB.out)) hb); have am := n0_; replace HI0 := n1_; replace HK := n2_; replace HB := n3_; clear n0_ n1_ n2_ n3_; clear hb ho4) | ((with_reducible refine gate_callee (f := 34) rfl ?_); refine goesL_ (some 9) rfl rfl Tryd.func34 (by kernel_rfl) rfl #[.pointer (some ⟨g, 0, none⟩), .int .i64 6] rfl (by (try simp only [List.map_toArray, List.map_cons, List.map_nil]) <;> rfl) ?_; (with_reducible refine (spec_l20Rd_pick.calls k g s0_0 s0_1 6 ar aq w0 _ ?side1 ?side2 A2.out).mono ?_); (case side1 => repeat (first | (with_reducible first | exact HI0.out | apply IsS71.alloc | apply IsS71.drewN | apply IsS71.drew | apply IsS71.set_1) | exact HI0.out)); (case side2 => repeat (first | (with_reducible first | exact HB.out | apply below_alloc | apply pw_below_drewN | apply below_drew1 | refine below_set ?_ (IsS71.ge HI0.out)) | exact HB.out)); rintro e w5 ⟨rfl, hi, hb, hk⟩; refine ⟨_, rfl, ?_⟩; have n0_ := qa54 (Kd.R_mono (Kd.R_keep (IsS71.apart (show IsS71 w0 _ g s0_0 s0_1 from by repeat (first | (with_reducible first | exact HI0.out | apply IsS71.alloc | apply IsS71.drewN | apply IsS71.drew | apply IsS71.set_1) | exact HI0.out)) (by (with_reducible repeat (first | apply Kd.R_alloc | apply Kd.R_drewN | apply Kd.R_drew)); exact am.out) (by decide)) hk (fun _ h => h.2)) (fun _ h => h.1)); have n1_ := qa54 (KeepBut.trans (by repeat (first | (with_reducible first | exact HK.out | apply KeepBut.set_ | apply keep_drewN | apply keep_drew | apply keep_alloc) | exact HK.out)) hk (.inl rfl)); have n2_ := qa54 (hb); have n3_ := qa54 (hi); replace am := n0_; replace HK := n1_; replace HB := n2_; replace HI0 := n3_; clear n0_ n1_ n2_ n3_; (try clear hb hk hi)))
 go_loopg [4, 5] k (fun kq v4 v5 w' => ∃ (ac : ByteArray) (ah : Int) (ad : Int), v4 = .string ac ∧ v5 = .int .i64 ah ∧ Aside0 (spec_l20Text.l0 kq ab ac ah s0_0 ad = some (r1, r2)) ∧ Aside0 (kq ≤ k) ∧ Aside0 (Kd.R Kd.string 9 w' w.heap.size (fun _ => True) aA ab) ∧ Aside0 (IsS71 w0 w' g s0_0 ad) ∧ Aside0 (KeepBut w w' g none) ∧ Aside0 (Below w0.heap.size w0 w'))
 case atStart => exact ⟨((⟨#[]⟩ : ByteArray)), (ar), (aq), (by first | rfl | (simp; done) | (simp [*]; done)), (by first | rfl | (simp; done) | (simp [*]; done)), H', ⟨Nat.le_refl _⟩, ⟨by (with_reducible repeat (first | apply Kd.R_alloc | apply Kd.R_drewN | apply Kd.R_drew)); exact am.out⟩, ⟨by repeat (first | (with_reducible first | exact HI0.out | apply IsS71.alloc | apply IsS71.drewN | apply IsS71.drew | apply IsS71.set_1) | exact HI0.out)⟩, ⟨by repeat (first | (with_reducible first | exact HK.out | apply KeepBut.set_ | apply keep_drewN | apply keep_drew | apply keep_alloc) | exact HK.out)⟩, ⟨by repeat (first | (with_reducible first | exact HB.out | apply below_alloc | apply pw_below_drewN | apply below_drew1 | refine below_set ?_ (IsS71.ge HI0.out)) | exact HB.out)⟩⟩
 case round =>
  clear H'
  try clear p2
  try clear c3
  try clear c5
  obtain ⟨ac, ah, ad, rfl, rfl, HA, HK1, ae, HI0, HK, HB⟩ := hrel
  cases gk with
  | zero => exact absurd HA.out (by simp [spec_l20Text.l0])
  | succ k1 =>
   have H := HA.out
   clear HA
   simp only [spec_l20Text.l0] at H
   by_cases c6 : ah > 0
   ·rw [if_pos c6] at H
    have aC : decide (0 < ah) = true := decide_eq_true c6
    clear c6
    replace H := Option.bind_eq_some_iff.mp H
    obtain ⟨⟨aa, aj⟩, A70, H⟩ := H
    (try dsimp only at H)
    have A7 := qa54 A70
    clear A70
    by_cases c8 : 0 ≤ aa
    ·rw [if_pos c8] at H
     have c8b0 : decide (0 ≤ aa) = true := decide_eq_true c8
     clear c8
     by_cases c9 : aa < (ab.length : Int)
     ·rw [if_pos c9] at H
      have c9b0 : decide (aa < (ab.length : Int)) = true := decide_eq_true c9
      clear c9
      by_cases c10 : ac.toList = ([] : List UInt8)
      ·rw [if_pos c10] at H
       have au : (ac.toList == ([] : List UInt8)) = true := beq_iff_eq.mpr c10
       have ax : (ac.toList != ([] : List UInt8)) = false := bne_eq_false_iff_eq.mpr c10
       clear c10
       have H' := qa54 H
       clear H
       obtain ⟨Ao11, co11, aB⟩ := Kd.R_slice ae.out
       subst aB
       go_wp2_with (first | ((with_reducible refine gate_callee (f := 34) rfl ?_); refine goesL_ (some 18) rfl rfl Tryd.func34 (by kernel_rfl) rfl #[.pointer (some ⟨g, 0, none⟩), .int .i64 (ab.length : Int)] rfl (by (try simp only [List.map_toArray, List.map_cons, List.map_nil]) <;> rfl) ?_; (with_reducible refine (spec_l20Rd_pick.calls k1 g s0_0 ad (ab.length : Int) aa aj w0 _ ?side1 ?side2 A7.out).mono ?_); (case side1 => repeat (first | (with_reducible first | exact HI0.out | apply IsS71.alloc | apply IsS71.drewN | apply IsS71.drew | apply IsS71.set_1) | exact HI0.out)); (case side2 => repeat (first | (with_reducible first | exact HB.out | apply below_alloc | apply pw_below_drewN | apply below_drew1 | refine below_set ?_ (IsS71.ge HI0.out)) | exact HB.out)); rintro e w12 ⟨rfl, hi, hb, hk⟩; refine ⟨_, rfl, ?_⟩; have n0_ := qa54 (Kd.R_mono (Kd.R_keep (IsS71.apart (show IsS71 w0 _ g s0_0 ad from by repeat (first | (with_reducible first | exact HI0.out | apply IsS71.alloc | apply IsS71.drewN | apply IsS71.drew | apply IsS71.set_1) | exact HI0.out)) (by (with_reducible repeat (first | apply Kd.R_alloc | apply Kd.R_drewN | apply Kd.R_drew)); exact ae.out) (by decide)) hk (fun _ h => h.2)) (fun _ h => h.1)); have n1_ := qa54 (KeepBut.trans (by repeat (first | (with_reducible first | exact HK.out | apply KeepBut.set_ | apply keep_drewN | apply keep_drew | apply keep_alloc) | exact HK.out)) hk (.inl rfl)); have n2_ := qa54 (hb); have n3_ := qa54 (hi); replace ae := n0_; replace HK := n1_; replace HB := n2_; replace HI0 := n3_; clear n0_ n1_ n2_ n3_; (try clear hb hk hi); have ag : 0 ≤ (aa : Int) := of_decide_eq_true (by first | (with_reducible assumption) | assumption); have af : aa < (ab.length : Int) := of_decide_eq_true (by first | (with_reducible assumption) | assumption); obtain ⟨ap, ak, al⟩ := Kd.at_string (Kd.R_reads' ae.out).2.2 aa ag af; cases ak; replace ag := eq_true ag; replace af := eq_true af))
       go_roundg k1
       case measure => have := HK1.out; omega
       case rel => exact ⟨(rdOf ByteArray.empty ab aa), (wrap64 (ah - 1)), (aj), (by first | rfl | (simp; done) | (simp [*]; done)), (by first | rfl | (simp; done) | (simp [*]; done)), H', ⟨by have := HK1.out; omega⟩, ⟨by (with_reducible repeat (first | apply Kd.R_alloc | apply Kd.R_drewN | apply Kd.R_drew)); exact ae.out⟩, ⟨by repeat (first | (with_reducible first | exact HI0.out | apply IsS71.alloc | apply IsS71.drewN | apply IsS71.drew | apply IsS71.set_1) | exact HI0.out)⟩, ⟨by repeat (first | (with_reducible first | exact HK.out | apply KeepBut.set_ | apply keep_drewN | apply keep_drew | apply keep_alloc) | exact HK.out)⟩, ⟨by repeat (first | (with_reducible first | exact HB.out | apply below_alloc | apply pw_below_drewN | apply below_drew1 | refine below_set ?_ (IsS71.ge HI0.out)) | exact HB.out)⟩⟩
      ·rw [if_neg c10] at H
       have au : (ac.toList == ([] : List UInt8)) = false := beq_eq_false_iff_ne.mpr c10
       have ax : (ac.toList != ([] : List UInt8)) = true := bne_iff_ne.mpr c10
       by_cases c13 : (wrap64 ((wrap64 ((ac.size : Int) + 1)) + ((rdOf ByteArray.empty ab aa).size : Int))) ≤ 30
       ·rw [if_pos c13] at H
        have ao : decide ((wrap64 ((wrap64 ((ac.size : Int) + 1)) + ((rdOf ByteArray.empty ab aa).size : Int))) ≤ 30) = true := decide_eq_true c13
        clear c13
        by_cases c14 : ac.size + 1 ≤ 9223372036854775807
        ·rw [if_pos c14] at H
         have c14b0 := eq_true c14
         have c14b1 : decide (ac.size + 1 ≤ 9223372036854775807) = true := decide_eq_true c14
         try have c14b2 : (9223372036854775807 < ac.size + 1) = False := eq_false (Nat.not_lt.2 c14)
         (try simp only [show wrap64 ((ac.size : Int) + 1) = (ac.size : Int) + 1 from by unfold wrap64; omega] at ao)
         by_cases c15 : (ac ++ (⟨#[32]⟩ : ByteArray)).size + (rdOf ByteArray.empty ab aa).size ≤ 9223372036854775807
         ·rw [if_pos c15] at H
          have c15b0 := eq_true c15
          have c15b1 : decide ((ac ++ (⟨#[32]⟩ : ByteArray)).size + (rdOf ByteArray.empty ab aa).size ≤ 9223372036854775807) = true := decide_eq_true c15
          try have aw : (9223372036854775807 < (ac ++ (⟨#[32]⟩ : ByteArray)).size + (rdOf ByteArray.empty ab aa).size) = False := eq_false (Nat.not_lt.2 c15)
          (try have av := aw)
          (try simp only [ByteArray.size_append, show (⟨#[32]⟩ : ByteArray).size = 1 from rfl] at av)
          have H' := qa54 H
          clear H
          obtain ⟨Ao16, co16, ay⟩ := Kd.R_slice ae.out
          subst ay
          go_wp2_with (first | ((with_reducible refine gate_callee (f := 34) rfl ?_); refine goesL_ (some 18) rfl rfl Tryd.func34 (by kernel_rfl) rfl #[.pointer (some ⟨g, 0, none⟩), .int .i64 (ab.length : Int)] rfl (by (try simp only [List.map_toArray, List.map_cons, List.map_nil]) <;> rfl) ?_; (with_reducible refine (spec_l20Rd_pick.calls k1 g s0_0 ad (ab.length : Int) aa aj w0 _ ?side1 ?side2 A7.out).mono ?_); (case side1 => repeat (first | (with_reducible first | exact HI0.out | apply IsS71.alloc | apply IsS71.drewN | apply IsS71.drew | apply IsS71.set_1) | exact HI0.out)); (case side2 => repeat (first | (with_reducible first | exact HB.out | apply below_alloc | apply pw_below_drewN | apply below_drew1 | refine below_set ?_ (IsS71.ge HI0.out)) | exact HB.out)); rintro e w17 ⟨rfl, hi, hb, hk⟩; refine ⟨_, rfl, ?_⟩; have n0_ := qa54 (Kd.R_mono (Kd.R_keep (IsS71.apart (show IsS71 w0 _ g s0_0 ad from by repeat (first | (with_reducible first | exact HI0.out | apply IsS71.alloc | apply IsS71.drewN | apply IsS71.drew | apply IsS71.set_1) | exact HI0.out)) (by (with_reducible repeat (first | apply Kd.R_alloc | apply Kd.R_drewN | apply Kd.R_drew)); exact ae.out) (by decide)) hk (fun _ h => h.2)) (fun _ h => h.1)); have n1_ := qa54 (KeepBut.trans (by repeat (first | (with_reducible first | exact HK.out | apply KeepBut.set_ | apply keep_drewN | apply keep_drew | apply keep_alloc) | exact HK.out)) hk (.inl rfl)); have n2_ := qa54 (hb); have n3_ := qa54 (hi); replace ae := n0_; replace HK := n1_; replace HB := n2_; replace HI0 := n3_; clear n0_ n1_ n2_ n3_; (try clear hb hk hi); have ag : 0 ≤ (aa : Int) := of_decide_eq_true (by first | (with_reducible assumption) | assumption); have af : aa < (ab.length : Int) := of_decide_eq_true (by first | (with_reducible assumption) | assumption); obtain ⟨ap, ak, al⟩ := Kd.at_string (Kd.R_reads' ae.out).2.2 aa ag af; cases ak; replace ag := eq_true ag; replace af := eq_true af))
          go_roundg k1
          case measure => have := HK1.out; omega
          case rel => exact ⟨((ac ++ (⟨#[32]⟩ : ByteArray)) ++ (rdOf ByteArray.empty ab aa)), (wrap64 (ah - 1)), (aj), (by first | rfl | (simp; done) | (simp [*]; done)), (by first | rfl | (simp; done) | (simp [*]; done)), H', ⟨by have := HK1.out; omega⟩, ⟨by (with_reducible repeat (first | apply Kd.R_alloc | apply Kd.R_drewN | apply Kd.R_drew)); exact ae.out⟩, ⟨by repeat (first | (with_reducible first | exact HI0.out | apply IsS71.alloc | apply IsS71.drewN | apply IsS71.drew | apply IsS71.set_1) | exact HI0.out)⟩, ⟨by repeat (first | (with_reducible first | exact HK.out | apply KeepBut.set_ | apply keep_drewN | apply keep_drew | apply keep_alloc) | exact HK.out)⟩, ⟨by repeat (first | (with_reducible first | exact HB.out | apply below_alloc | apply pw_below_drewN | apply below_drew1 | refine below_set ?_ (IsS71.ge HI0.out)) | exact HB.out)⟩⟩
         ·rw [if_neg c15] at H
          exact absurd H (by simp)
        ·rw [if_neg c14] at H
         exact absurd H (by simp)
       ·rw [if_neg c13] at H
        have ao : decide ((wrap64 ((wrap64 ((ac.size : Int) + 1)) + ((rdOf ByteArray.empty ab aa).size : Int))) ≤ 30) = false := decide_eq_false c13
        clear c13
        have H' := qa54 H
        clear H
        obtain ⟨Ao18, co18, az⟩ := Kd.R_slice ae.out
        subst az
        go_wp2_with (first | ((with_reducible refine gate_callee (f := 34) rfl ?_); refine goesL_ (some 18) rfl rfl Tryd.func34 (by kernel_rfl) rfl #[.pointer (some ⟨g, 0, none⟩), .int .i64 (ab.length : Int)] rfl (by (try simp only [List.map_toArray, List.map_cons, List.map_nil]) <;> rfl) ?_; (with_reducible refine (spec_l20Rd_pick.calls k1 g s0_0 ad (ab.length : Int) aa aj w0 _ ?side1 ?side2 A7.out).mono ?_); (case side1 => repeat (first | (with_reducible first | exact HI0.out | apply IsS71.alloc | apply IsS71.drewN | apply IsS71.drew | apply IsS71.set_1) | exact HI0.out)); (case side2 => repeat (first | (with_reducible first | exact HB.out | apply below_alloc | apply pw_below_drewN | apply below_drew1 | refine below_set ?_ (IsS71.ge HI0.out)) | exact HB.out)); rintro e w19 ⟨rfl, hi, hb, hk⟩; refine ⟨_, rfl, ?_⟩; have n0_ := qa54 (Kd.R_mono (Kd.R_keep (IsS71.apart (show IsS71 w0 _ g s0_0 ad from by repeat (first | (with_reducible first | exact HI0.out | apply IsS71.alloc | apply IsS71.drewN | apply IsS71.drew | apply IsS71.set_1) | exact HI0.out)) (by (with_reducible repeat (first | apply Kd.R_alloc | apply Kd.R_drewN | apply Kd.R_drew)); exact ae.out) (by decide)) hk (fun _ h => h.2)) (fun _ h => h.1)); have n1_ := qa54 (KeepBut.trans (by repeat (first | (with_reducible first | exact HK.out | apply KeepBut.set_ | apply keep_drewN | apply keep_drew | apply keep_alloc) | exact HK.out)) hk (.inl rfl)); have n2_ := qa54 (hb); have n3_ := qa54 (hi); replace ae := n0_; replace HK := n1_; replace HB := n2_; replace HI0 := n3_; clear n0_ n1_ n2_ n3_; (try clear hb hk hi); have ag : 0 ≤ (aa : Int) := of_decide_eq_true (by first | (with_reducible assumption) | assumption); have af : aa < (ab.length : Int) := of_decide_eq_true (by first | (with_reducible assumption) | assumption); obtain ⟨ap, ak, al⟩ := Kd.at_string (Kd.R_reads' ae.out).2.2 aa ag af; cases ak; replace ag := eq_true ag; replace af := eq_true af))
        go_roundg k1
        case measure => have := HK1.out; omega
        case rel => exact ⟨(ac), (wrap64 (ah - 1)), (aj), (by first | rfl | (simp; done) | (simp [*]; done)), (by first | rfl | (simp; done) | (simp [*]; done)), H', ⟨by have := HK1.out; omega⟩, ⟨by (with_reducible repeat (first | apply Kd.R_alloc | apply Kd.R_drewN | apply Kd.R_drew)); exact ae.out⟩, ⟨by repeat (first | (with_reducible first | exact HI0.out | apply IsS71.alloc | apply IsS71.drewN | apply IsS71.drew | apply IsS71.set_1) | exact HI0.out)⟩, ⟨by repeat (first | (with_reducible first | exact HK.out | apply KeepBut.set_ | apply keep_drewN | apply keep_drew | apply keep_alloc) | exact HK.out)⟩, ⟨by repeat (first | (with_reducible first | exact HB.out | apply below_alloc | apply pw_below_drewN | apply below_drew1 | refine below_set ?_ (IsS71.ge HI0.out)) | exact HB.out)⟩⟩
     ·rw [if_neg c9] at H
      exact absurd H (by simp)
    ·rw [if_neg c8] at H
     exact absurd H (by simp)
   ·rw [if_neg c6] at H
    have aC : decide (0 < ah) = false := decide_eq_false c6
    clear c6
    simp only [Option.some.injEq, Prod.mk.injEq] at H
    obtain ⟨rfl, rfl⟩ := H
    go_wp2
    go_ret
    exact ⟨by first | rfl | (simp [errW_none, errW_some] <;> rfl) | (simp [*, errW_none, errW_some] <;> rfl), by repeat (first | (with_reducible first | exact HI0.out | apply IsS71.alloc | apply IsS71.drewN | apply IsS71.drew | apply IsS71.set_1) | exact HI0.out), by repeat (first | (with_reducible first | exact HB.out | apply below_alloc | apply pw_below_drewN | apply below_drew1 | refine below_set ?_ (IsS71.ge HI0.out)) | exact HB.out), by repeat (first | (with_reducible first | exact HK.out | apply KeepBut.set_ | apply keep_drewN | apply keep_drew | apply keep_alloc) | exact HK.out)⟩
end Go.Proofs.YtnednnnegofhkaaDoor.Pr
namespace Go.Proofs.YtnednnnegofhkaaDoor.Pr
open Go.RowKit Go.Proofs.YtnednnnegofhkaaDoorW.PrintWords Go.Proofs.YtnednnnegofhkaaDoorW.PrintLast Go.Proofs.YtnednnnegofhkaaDoorW.PrintMore
attribute [local go_sem] max2_int min2_int max_two min_two max_three min_three max_four min_four
set_option linter.unusedVariables false
set_option linter.unusedSimpArgs false
mutual
def spec_l20Brd.j1 : Nat → Int → List Int → Int → Int → Int → Option (Int × Int × Int)
  | 0, _, _, _, _, _ => none
  | k + 1, x1, x1000, x1001, x141000, x141001 => (spec_l20Rd_pick.f k x1000 x1001 x1).bind fun bt149 => (if bt149.1 = 0 then ((spec_l20Rd_pick.f k x1000 bt149.2 2).bind fun bt151 => (if bt151.1 = 0 then ((some (([(-1), 5, 1] : List Int) : List Int)).bind fun y153 => ((spec_l20Rd_pick.f k x1000 bt151.2 3).bind fun bt156 => (if 0 ≤ bt156.1 then (if bt156.1 < (y153.length : Int) then (some (rd y153 bt156.1, x141001, bt156.2)) else (none)) else (none)))) else ((some (([(-1), 4, 0, 1] : List Int) : List Int)).bind fun y159 => ((spec_l20Rd_pick.f k x1000 bt151.2 4).bind fun bt162 => (if 0 ≤ bt162.1 then (if bt162.1 < (y159.length : Int) then (some (x141000, rd y159 bt162.1, bt162.2)) else (none)) else (none)))))) else (some (x141000, x141001, bt149.2)))
def spec_l20Brd.j0 : Nat → Int → Int → Bool → List Int → Int → Int → Int → Option (Int × Int × Int)
  | 0, _, _, _, _, _, _, _ => none
  | k + 1, x1, x8, x9, x1000, x1001, x141000, x141001 => if x9 = true then ((spec_l20Rd_pick.f k x1000 x1001 3).bind fun bt143 => ((spec_l20Rd_pick.f k x1000 bt143.2 3).bind fun bt145 => (spec_l20Brd.j1 k x1 x1000 bt145.2 (wrap64 (1 + bt143.1)) (wrap64 (1 + bt145.1))))) else (if x8 = 2 then ((spec_l20Rd_pick.f k x1000 x1001 3).bind fun bt147 => (if bt147.1 = 0 then (spec_l20Brd.j1 k x1 x1000 bt147.2 4 x141001) else (spec_l20Brd.j1 k x1 x1000 bt147.2 x141000 x141001))) else (spec_l20Brd.j1 k x1 x1000 x1001 x141000 x141001))
end
def spec_l20Brd.f (k : Nat) (s0_0 : List Int) (s0_1 : Int) (a1 : Int) : Option (Int × Int × Int) := (spec_l20Rd_pick.f k s0_0 s0_1 4).bind fun bt141 => (if bt141.1 = 0 then (spec_l20Brd.j0 k a1 bt141.1 (bt141.1 == 0) s0_0 bt141.2 0 0) else (spec_l20Brd.j0 k a1 bt141.1 (bt141.1 == 1) s0_0 bt141.2 0 0))
theorem spec_l20Brd.mono_l : ∀ k, (∀ y0 y1 y2 y3 y4, LeO (spec_l20Brd.j1 k y0 y1 y2 y3 y4) (spec_l20Brd.j1 (k + 1) y0 y1 y2 y3 y4)) ∧ (∀ y0 y1 y2 y3 y4 y5 y6, LeO (spec_l20Brd.j0 k y0 y1 y2 y3 y4 y5 y6) (spec_l20Brd.j0 (k + 1) y0 y1 y2 y3 y4 y5 y6))
  | 0 => ⟨fun _ _ _ _ _ r h => by simp [spec_l20Brd.j1] at h, fun _ _ _ _ _ _ _ r h => by simp [spec_l20Brd.j0] at h⟩
  | k + 1 => by
    obtain ⟨ih0, ih1⟩ := spec_l20Brd.mono_l k
    refine ⟨?_, ?_⟩
    · intro y0 y1 y2 y3 y4
      unfold spec_l20Brd.j1
      repeat' first
      | (with_reducible exact ih0 _ _ _ _ _)
      | (with_reducible exact ih1 _ _ _ _ _ _ _)
      | (with_reducible exact spec_l20Rd_pick.mono _ _ _ _)
      | (with_reducible exact LeO.refl _)
      | (with_reducible exact LeO.none _)
      | (with_reducible refine LeO.ite ?_ ?_)
      | (with_reducible refine LeO.bind ?_ (fun _ => ?_))
      | exact ih0 _ _ _ _ _
      | exact ih1 _ _ _ _ _ _ _
      | exact spec_l20Rd_pick.mono _ _ _ _
      | exact LeO.none _
      | refine LeO.ite ?_ ?_
      | refine LeO.bind ?_ (fun _ => ?_)
    · intro y0 y1 y2 y3 y4 y5 y6
      unfold spec_l20Brd.j0
      repeat' first
      | (with_reducible exact ih0 _ _ _ _ _)
      | (with_reducible exact ih1 _ _ _ _ _ _ _)
      | (with_reducible exact spec_l20Rd_pick.mono _ _ _ _)
      | (with_reducible exact LeO.refl _)
      | (with_reducible exact LeO.none _)
      | (with_reducible refine LeO.ite ?_ ?_)
      | (with_reducible refine LeO.bind ?_ (fun _ => ?_))
      | exact ih0 _ _ _ _ _
      | exact ih1 _ _ _ _ _ _ _
      | exact spec_l20Rd_pick.mono _ _ _ _
      | exact LeO.none _
      | refine LeO.ite ?_ ?_
      | refine LeO.bind ?_ (fun _ => ?_)
theorem spec_l20Brd.mono : ∀ a0 a1 a2 k, LeO (spec_l20Brd.f k a0 a1 a2) (spec_l20Brd.f (k + 1) a0 a1 a2) := by
  intro a0 a1 a2 k
  obtain ⟨ih0, ih1⟩ := spec_l20Brd.mono_l k
  unfold spec_l20Brd.f
  repeat' first
      | (with_reducible exact ih0 _ _ _ _ _)
      | (with_reducible exact ih1 _ _ _ _ _ _ _)
      | (with_reducible exact spec_l20Rd_pick.mono _ _ _ _)
      | (with_reducible exact LeO.refl _)
      | (with_reducible exact LeO.none _)
      | (with_reducible refine LeO.ite ?_ ?_)
      | (with_reducible refine LeO.bind ?_ (fun _ => ?_))
      | exact ih0 _ _ _ _ _
      | exact ih1 _ _ _ _ _ _ _
      | exact spec_l20Rd_pick.mono _ _ _ _
      | exact LeO.none _
      | refine LeO.ite ?_ ?_
      | refine LeO.bind ?_ (fun _ => ?_)
theorem bq55_ {w : World} {g : Nat} {t : TypeId} {cs : Array Value} {v : Value} (h : w.heap[g]? = some (.cells cs t (0, 0))) (i : Nat) (e : cs[i]? = some v) : w.cell? ⟨g, i, none⟩ = some v := (blk_cell h i).trans e
abbrev qa55 := @Aside0.mk
abbrev qb55 := @below_set
abbrev qc55 := @blk_alloc
abbrev qd55 := @blk_drewN
abbrev qe55 := @IsS71.far
abbrev qf55 := @blk_drew
abbrev qg55 := @keep_far
abbrev qh55 := @pw_below_drewN
abbrev qi55 := @KeepBut.set_
abbrev qj55 := @IsS71.alloc
abbrev qk55 := @IsS71.drewN
abbrev ql55 := @IsS71.set_1
abbrev qm55 := @IsS71.drew
abbrev qn55 := @keep_alloc
abbrev qo55 := @keep_drewN
abbrev qp55 := @below_alloc
abbrev qq55 := @below_drew1
abbrev qr55 := @KeepBut.blk
abbrev qs55 := @keep_drew
abbrev qt55 := @KeepBut.trans
abbrev qu55 := @List.map_toArray
set_option maxHeartbeats 8000000 in
set_option maxRecDepth 100000 in
theorem spec_l20Brd.calls (k : Nat) (g : Nat) (s0_0 : List Int) (s0_1 : Int) (a1 : Int) (r1 : Int) (r2 : Int) (r3 : Int) (w0 w : World) (hI : IsS71 w0 w g s0_0 s0_1) (hB : Below w0.heap.size w0 w) (h : spec_l20Brd.f k s0_0 s0_1 a1 = some (r1, r2, r3)) :
  Calls Tryd.prog 55 #[.pointer (some ⟨g, 0, none⟩), .int .i64 a1] w fun e w' => e = .returned (.agg #[.int .i64 r1, .int .i64 r2]) ∧ IsS71 w0 w' g s0_0 r3 ∧ Below w0.heap.size w0 w' ∧ KeepBut w w' g none := by
 have hu35 := Tryd.underlying35
 have HI0 := qa55 hI
 have HK := qa55 (KeepBut.refl w g none)
 have HL := qa55 hB.size
 clear hI
 have HW0 := qa55 hB.size
 have HB := qa55 hB
 clear hB
 have H := h
 unfold spec_l20Brd.f at H
 clear h
 replace H := Option.bind_eq_some_iff.mp H
 obtain ⟨⟨ao, av⟩, A30, H⟩ := H
 (try dsimp only at H)
 have A3 := qa55 A30
 clear A30
 have HC4 := qa55 H
 clear H
 go_enter Tryd.func55, Tryd.ntmps55
 go_upto_block 0 with (first | ((with_reducible refine gate_dst (N := 4) rfl ?_); refine box_event ?hg (N := 4) ?hd (cs := #[.int .i64 0, .int .i64 0]) (t := 35) ?hr ?_; (case hd => rfl); (case hg => rfl); (case hr => go_simp <;> rfl); intro aj hg w5 hbox hb; have n0_ := qa55 (IsS71.below (by repeat (first | (with_reducible first | exact HI0.out | apply qj55 | apply qk55 | apply qm55 | apply ql55) | exact HI0.out)) hb); have n1_ := qa55 (qt55 (by repeat (first | (with_reducible first | exact HK.out | apply qi55 | apply qo55 | apply qs55 | apply qn55) | exact HK.out)) (KeepBut.of_below hb g none) (.inl rfl)); have n2_ := qa55 (below_step (by repeat (first | (with_reducible first | exact HB.out | apply qp55 | apply qh55 | apply qq55 | refine qb55 ?_ (IsS71.ge HI0.out)) | exact HB.out)) hb); have n3_ := qa55 (hbox); have n4_ := qa55 ((by rw [hg]; exact (keep_size (w := w) (g := g) (row := none) (by repeat (first | (with_reducible first | exact HK.out | apply qi55 | apply qo55 | apply qs55 | apply qn55) | exact HK.out))) : w.heap.size ≤ aj)); have n5_ := qa55 (Nat.le_trans HW0.out n4_.out); have n6_ := qa55 ((by rw [hg]; exact Nat.ne_of_lt (IsS71.lt (show IsS71 w0 _ g s0_0 s0_1 from by repeat (first | (with_reducible first | exact HI0.out | apply qj55 | apply qk55 | apply qm55 | apply ql55) | exact HI0.out))) : g ≠ aj)); have n7_ := qa55 (Ne.symm n6_.out); replace HI0 := n0_; replace HK := n1_; replace HB := n2_; have ab := n3_; have ae := n4_; have ai := n5_; have ad := n6_; have al := n7_; clear n0_ n1_ n2_ n3_ n4_ n5_ n6_ n7_; clear hb hbox hg) | ((with_reducible refine gate_dst (N := 5) rfl ?_); refine box_event ?hg (N := 5) ?hd (cs := #[.int .i64 0, .int .i64 0]) (t := 35) ?hr ?_; (case hd => rfl); (case hg => rfl); (case hr => go_simp <;> rfl); intro am hg w6 hbox hb; have n0_ := qa55 (IsS71.below (by repeat (first | (with_reducible first | exact HI0.out | apply qj55 | apply qk55 | apply qm55 | apply ql55 | refine qe55 ?_ ad.out _) | exact HI0.out)) hb); have n1_ := qa55 (blk_below (g := aj) (by (with_reducible repeat (first | apply qd55 | apply qf55 | apply qc55)); exact ab.out) hb); have n2_ := qa55 (qt55 (by repeat (first | (with_reducible first | exact HK.out | apply qi55 | apply qo55 | apply qs55 | apply qn55 | refine qg55 ?_ ae.out _) | exact HK.out)) (KeepBut.of_below hb g none) (.inl rfl)); have n3_ := qa55 (below_step (by repeat (first | (with_reducible first | exact HB.out | apply qp55 | apply qh55 | apply qq55 | refine qb55 ?_ (IsS71.ge HI0.out) | refine qb55 ?_ ai.out) | exact HB.out)) hb); have n4_ := qa55 (hbox); have n5_ := qa55 ((by rw [hg]; exact (keep_size (w := w) (g := g) (row := none) (by repeat (first | (with_reducible first | exact HK.out | apply qi55 | apply qo55 | apply qs55 | apply qn55 | refine qg55 ?_ ae.out _) | exact HK.out))) : w.heap.size ≤ am)); have n6_ := qa55 (Nat.le_trans HW0.out n5_.out); have n7_ := qa55 ((by rw [hg]; exact Nat.ne_of_lt (blk_lt (g := aj) (o := .cells #[.int .i64 0, .int .i64 0] 35 (0, 0)) (by (with_reducible repeat (first | apply qd55 | apply qf55 | apply qc55)); exact ab.out)) : aj ≠ am)); have n8_ := qa55 (Ne.symm n7_.out); have n9_ := qa55 ((by rw [hg]; exact Nat.ne_of_lt (IsS71.lt (show IsS71 w0 _ g s0_0 s0_1 from by repeat (first | (with_reducible first | exact HI0.out | apply qj55 | apply qk55 | apply qm55 | apply ql55 | refine qe55 ?_ ad.out _) | exact HI0.out))) : g ≠ am)); have bk := qa55 (Ne.symm n9_.out); replace HI0 := n0_; replace ab := n1_; replace HK := n2_; replace HB := n3_; have aa := n4_; have ag := n5_; have ak := n6_; have ah := n7_; have aq := n8_; have ac := n9_; have af := bk; clear n0_ n1_ n2_ n3_ n4_ n5_ n6_ n7_ n8_ n9_ bk; clear hb hbox hg; have hnb7 := aq.out; have hnc7 := ah.out; have hnb8 := af.out; have hnc8 := ac.out; have aQ := bq55_ aa.out 0 rfl; have aP := bq55_ aa.out 1 rfl; have aO := blk_frozen aa.out 0; have aN := blk_frozen aa.out 1) | ((with_reducible refine gate_callee (f := 34) rfl ?_); refine goesL_ (some 8) rfl rfl Tryd.func34 (by kernel_rfl) rfl #[.pointer (some ⟨g, 0, none⟩), .int .i64 4] rfl (by (try simp only [qu55, List.map_cons, List.map_nil]) <;> rfl) ?_; (with_reducible refine (spec_l20Rd_pick.calls k g s0_0 s0_1 4 ao av w0 _ ?side1 ?side2 A3.out).mono ?_); (case side1 => repeat (first | (with_reducible first | exact HI0.out | apply qj55 | apply qk55 | apply qm55 | apply ql55 | refine qe55 ?_ ad.out _ | refine qe55 ?_ ac.out _) | exact HI0.out)); (case side2 => repeat (first | (with_reducible first | exact HB.out | apply qp55 | apply qh55 | apply qq55 | refine qb55 ?_ (IsS71.ge HI0.out) | refine qb55 ?_ ai.out | refine qb55 ?_ ak.out) | exact HB.out)); rintro e w10 ⟨rfl, hi, hb, hk⟩; refine ⟨_, rfl, ?_⟩; have n0_ := qa55 (qr55 hk (g' := aj) (o := .cells #[.int .i64 0, .int .i64 0] 35 (0, 0)) (by (with_reducible repeat (first | apply qd55 | apply qf55 | apply qc55)); refine blk_far ?_ ah.out _; refine blk_far ?_ ah.out _; (with_reducible repeat (first | apply qd55 | apply qf55 | apply qc55)); exact ab.out) al.out (by simp)); have n1_ := qa55 (qr55 hk (g' := am) (o := .cells #[.int .i64 0, .int .i64 0] 35 (0, 0)) (by (with_reducible repeat (first | apply qd55 | apply qf55 | apply qc55)); refine blk_put (cs := #[.int .i64 0, .int .i64 0]) ?_ 1 _ rfl; refine blk_put (cs := #[.int .i64 0, .int .i64 0]) ?_ 0 _ rfl; (with_reducible repeat (first | apply qd55 | apply qf55 | apply qc55)); exact aa.out) af.out (by simp)); have n2_ := qa55 (qt55 (by repeat (first | (with_reducible first | exact HK.out | apply qi55 | apply qo55 | apply qs55 | apply qn55 | refine qg55 ?_ ae.out _ | refine qg55 ?_ ag.out _) | exact HK.out)) hk (.inl rfl)); have n3_ := qa55 (hb); have n4_ := qa55 (hi); replace ab := n0_; replace aa := n1_; replace HK := n2_; replace HB := n3_; replace HI0 := n4_; clear n0_ n1_ n2_ n3_ n4_; (try clear hb hk hi)))
 (try simp only [Act.put, qa_, qb_, qc_])
 go_cut [] (fun wc => ∃ (kq : Nat) (ar : Int) (an : Int) (ap : Int), Aside0 (spec_l20Brd.j1 kq a1 s0_0 ar an ap = some (r1, r2, r3)) ∧ Aside0 (kq ≤ k) ∧ Aside0 (wc.heap[aj]? = some (.cells #[.int .i64 0, .int .i64 0] 35 (0, 0))) ∧ Aside0 (wc.heap[am]? = some (.cells #[.int .i64 an, .int .i64 ap] 35 (0, 0))) ∧ Aside0 (IsS71 w0 wc g s0_0 ar) ∧ Aside0 (KeepBut w wc g none) ∧ Aside0 (Below w0.heap.size w0 wc))
 case first =>
  have H := HC4.out
  clear HC4
  have aW := qa55 H
  clear H
  go_upto_if 9 with (fail)
  go_cut [9] (fun v9 wc => ∃ (kq : Nat) (aF : Bool), v9 = .bool aF ∧ Aside0 (spec_l20Brd.j0 kq a1 ao aF s0_0 av 0 0 = some (r1, r2, r3)) ∧ Aside0 (kq ≤ k) ∧ Aside0 (wc.heap[aj]? = some (.cells #[.int .i64 0, .int .i64 0] 35 (0, 0))) ∧ Aside0 (wc.heap[am]? = some (.cells #[.int .i64 0, .int .i64 0] 35 (0, 0))) ∧ Aside0 (IsS71 w0 wc g s0_0 av) ∧ Aside0 (KeepBut w wc g none) ∧ Aside0 (Below w0.heap.size w0 wc))
  case first =>
   have H := aW.out
   clear aW
   by_cases c12 : ao = 0
   ·rw [if_pos c12] at H
    have ax : (ao == 0) = true := beq_iff_eq.mpr c12
    have aL : (ao != 0) = false := bne_eq_false_iff_eq.mpr c12
    clear c12
    (first | rw [ax] | (simp only [i64_w, i32_w]; rw [ax]) | skip)
    have H' := qa55 H
    clear H
    go_wp2
    go_meet
    case rel => exact ⟨_, ((ao == 0)), (by first | rfl | (simp; done) | (simp [*]; done)), H', ⟨by first | omega | exact Nat.le_refl _⟩, ⟨by (with_reducible repeat (first | apply qd55 | apply qf55 | apply qc55)); exact ab.out⟩, ⟨by (with_reducible repeat (first | apply qd55 | apply qf55 | apply qc55)); exact aa.out⟩, ⟨by repeat (first | (with_reducible first | exact HI0.out | apply qj55 | apply qk55 | apply qm55 | apply ql55 | refine qe55 ?_ ad.out _ | refine qe55 ?_ ac.out _) | exact HI0.out)⟩, ⟨by repeat (first | (with_reducible first | exact HK.out | apply qi55 | apply qo55 | apply qs55 | apply qn55 | refine qg55 ?_ ae.out _ | refine qg55 ?_ ag.out _) | exact HK.out)⟩, ⟨by repeat (first | (with_reducible first | exact HB.out | apply qp55 | apply qh55 | apply qq55 | refine qb55 ?_ (IsS71.ge HI0.out) | refine qb55 ?_ ai.out | refine qb55 ?_ ak.out) | exact HB.out)⟩⟩
   ·rw [if_neg c12] at H
    have ax : (ao == 0) = false := beq_eq_false_iff_ne.mpr c12
    have aL : (ao != 0) = true := bne_iff_ne.mpr c12
    (first | rw [ax] | (simp only [i64_w, i32_w]; rw [ax]) | skip)
    have H' := qa55 H
    clear H
    go_wp2
    go_meet
    case rel => exact ⟨_, ((ao == 1)), (by first | rfl | (simp; done) | (simp [*]; done)), H', ⟨by first | omega | exact Nat.le_refl _⟩, ⟨by (with_reducible repeat (first | apply qd55 | apply qf55 | apply qc55)); exact ab.out⟩, ⟨by (with_reducible repeat (first | apply qd55 | apply qf55 | apply qc55)); exact aa.out⟩, ⟨by repeat (first | (with_reducible first | exact HI0.out | apply qj55 | apply qk55 | apply qm55 | apply ql55 | refine qe55 ?_ ad.out _ | refine qe55 ?_ ac.out _) | exact HI0.out)⟩, ⟨by repeat (first | (with_reducible first | exact HK.out | apply qi55 | apply qo55 | apply qs55 | apply qn55 | refine qg55 ?_ ae.out _ | refine qg55 ?_ ag.out _) | exact HK.out)⟩, ⟨by repeat (first | (with_reducible first | exact HB.out | apply qp55 | apply qh55 | apply qq55 | refine qb55 ?_ (IsS71.ge HI0.out) | refine qb55 ?_ ai.out | refine qb55 ?_ ak.out) | exact HB.out)⟩⟩
  case rest =>
   clear aW
   try clear c1
   try clear p2
   try clear c3
   try clear c5
   try clear c7
   try clear c8
   try clear c12
   try clear ax
   try clear aL
   try clear aQ
   try clear aP
   try clear aO
   try clear aN
   obtain ⟨kq, aF, rfl, HA, aK, ab, aa, HI0, HK, HB⟩ := hcut
   cases kq with
   | zero => exact absurd HA.out (by simp [spec_l20Brd.j0])
   | succ kj10 =>
    have H := HA.out
    clear HA
    simp only [spec_l20Brd.j0] at H
    by_cases c13 : aF = true
    ·subst c13
     have H1 : ((spec_l20Rd_pick.f kj10 s0_0 av 3).bind fun bt143 => ((spec_l20Rd_pick.f kj10 s0_0 bt143.2 3).bind fun bt145 => (spec_l20Brd.j1 kj10 a1 s0_0 bt145.2 (wrap64 (1 + bt143.1)) (wrap64 (1 + bt145.1))))) = some (r1, r2, r3) := by rw [if_pos rfl] at H; exact H
     clear H
     have H := H1
     clear H1
     replace H := Option.bind_eq_some_iff.mp H
     obtain ⟨⟨aU, bj⟩, bm, H⟩ := H
     (try dsimp only at H)
     have A14 := qa55 bm
     clear bm
     replace H := Option.bind_eq_some_iff.mp H
     obtain ⟨⟨bh, be⟩, bl, H⟩ := H
     (try dsimp only at H)
     have A15 := qa55 bl
     clear bl
     have H' := qa55 H
     clear H
     go_wp2_with (first | ((with_reducible refine gate_callee (f := 34) rfl ?_); refine goesL_ (some 13) rfl rfl Tryd.func34 (by kernel_rfl) rfl #[.pointer (some ⟨g, 0, none⟩), .int .i64 3] rfl (by (try simp only [qu55, List.map_cons, List.map_nil]) <;> rfl) ?_; (with_reducible refine (spec_l20Rd_pick.calls kj10 g s0_0 av 3 aU bj w0 _ ?side1 ?side2 A14.out).mono ?_); (case side1 => repeat (first | (with_reducible first | exact HI0.out | apply qj55 | apply qk55 | apply qm55 | apply ql55 | refine qe55 ?_ ad.out _ | refine qe55 ?_ ac.out _) | exact HI0.out)); (case side2 => repeat (first | (with_reducible first | exact HB.out | apply qp55 | apply qh55 | apply qq55 | refine qb55 ?_ (IsS71.ge HI0.out) | refine qb55 ?_ ai.out | refine qb55 ?_ ak.out) | exact HB.out)); rintro e w16 ⟨rfl, hi, hb, hk⟩; refine ⟨_, rfl, ?_⟩; have n0_ := qa55 (qr55 hk (g' := aj) (by (with_reducible repeat (first | apply qd55 | apply qf55 | apply qc55)); exact ab.out) al.out (by simp)); have n1_ := qa55 (qr55 hk (g' := am) (by (with_reducible repeat (first | apply qd55 | apply qf55 | apply qc55)); exact aa.out) af.out (by simp)); have n2_ := qa55 (qt55 (by repeat (first | (with_reducible first | exact HK.out | apply qi55 | apply qo55 | apply qs55 | apply qn55 | refine qg55 ?_ ae.out _ | refine qg55 ?_ ag.out _) | exact HK.out)) hk (.inl rfl)); have n3_ := qa55 (hb); have n4_ := qa55 (hi); replace ab := n0_; replace aa := n1_; replace HK := n2_; replace HB := n3_; replace HI0 := n4_; clear n0_ n1_ n2_ n3_ n4_; (try clear hb hk hi)) | ((with_reducible refine gate_callee (f := 34) rfl ?_); refine goesL_ (some 16) rfl rfl Tryd.func34 (by kernel_rfl) rfl #[.pointer (some ⟨g, 0, none⟩), .int .i64 3] rfl (by (try simp only [qu55, List.map_cons, List.map_nil]) <;> rfl) ?_; (with_reducible refine (spec_l20Rd_pick.calls kj10 g s0_0 bj 3 bh be w0 _ ?side1 ?side2 A15.out).mono ?_); (case side1 => repeat (first | (with_reducible first | exact HI0.out | apply qj55 | apply qk55 | apply qm55 | apply ql55 | refine qe55 ?_ ad.out _ | refine qe55 ?_ ac.out _) | exact HI0.out)); (case side2 => repeat (first | (with_reducible first | exact HB.out | apply qp55 | apply qh55 | apply qq55 | refine qb55 ?_ (IsS71.ge HI0.out) | refine qb55 ?_ ai.out | refine qb55 ?_ ak.out) | exact HB.out)); rintro e w17 ⟨rfl, hi, hb, hk⟩; refine ⟨_, rfl, ?_⟩; have n0_ := qa55 (qr55 hk (g' := aj) (by (with_reducible repeat (first | apply qd55 | apply qf55 | apply qc55)); exact ab.out) al.out (by simp)); have n1_ := qa55 (qr55 hk (g' := am) (by (with_reducible repeat (first | apply qd55 | apply qf55 | apply qc55)); exact aa.out) af.out (by simp)); have n2_ := qa55 (qt55 (by repeat (first | (with_reducible first | exact HK.out | apply qi55 | apply qo55 | apply qs55 | apply qn55 | refine qg55 ?_ ae.out _ | refine qg55 ?_ ag.out _) | exact HK.out)) hk (.inl rfl)); have n3_ := qa55 (hb); have n4_ := qa55 (hi); replace ab := n0_; replace aa := n1_; replace HK := n2_; replace HB := n3_; replace HI0 := n4_; clear n0_ n1_ n2_ n3_ n4_; (try clear hb hk hi); have hnb18 := aq.out; have hnc18 := ah.out; have hnb19 := af.out; have hnc19 := ac.out; have a7 := bq55_ aa.out 0 rfl; have a8 := bq55_ aa.out 1 rfl; have bb := blk_frozen aa.out 0; have a9 := blk_frozen aa.out 1))
     go_meet
     case rel => exact ⟨_, (be), (wrap64 (1 + aU)), (wrap64 (1 + bh)), H', ⟨by have := aK.out; first | omega | exact Nat.le_refl _⟩, ⟨by (with_reducible repeat (first | apply qd55 | apply qf55 | apply qc55)); refine blk_far ?_ ah.out _; refine blk_far ?_ ah.out _; (with_reducible repeat (first | apply qd55 | apply qf55 | apply qc55)); exact ab.out⟩, ⟨by (with_reducible repeat (first | apply qd55 | apply qf55 | apply qc55)); refine blk_put (cs := #[.int .i64 (wrap64 (1 + aU)), .int .i64 0]) ?_ 1 _ rfl; refine blk_put (cs := #[.int .i64 0, .int .i64 0]) ?_ 0 _ rfl; (with_reducible repeat (first | apply qd55 | apply qf55 | apply qc55)); exact aa.out⟩, ⟨by repeat (first | (with_reducible first | exact HI0.out | apply qj55 | apply qk55 | apply qm55 | apply ql55 | refine qe55 ?_ ad.out _ | refine qe55 ?_ ac.out _) | exact HI0.out)⟩, ⟨by repeat (first | (with_reducible first | exact HK.out | apply qi55 | apply qo55 | apply qs55 | apply qn55 | refine qg55 ?_ ae.out _ | refine qg55 ?_ ag.out _) | exact HK.out)⟩, ⟨by repeat (first | (with_reducible first | exact HB.out | apply qp55 | apply qh55 | apply qq55 | refine qb55 ?_ (IsS71.ge HI0.out) | refine qb55 ?_ ai.out | refine qb55 ?_ ak.out) | exact HB.out)⟩⟩
    ·replace c13 := Bool.eq_false_iff.mpr c13
     subst c13
     have H1 : (if ao = 2 then ((spec_l20Rd_pick.f kj10 s0_0 av 3).bind fun bt147 => (if bt147.1 = 0 then (spec_l20Brd.j1 kj10 a1 s0_0 bt147.2 4 0) else (spec_l20Brd.j1 kj10 a1 s0_0 bt147.2 0 0))) else (spec_l20Brd.j1 kj10 a1 s0_0 av 0 0)) = some (r1, r2, r3) := by rw [if_neg (show ¬ (false = true) by decide)] at H; exact H
     clear H
     have H := H1
     clear H1
     by_cases c21 : ao = 2
     ·rw [if_pos c21] at H
      have a5 : (ao == 2) = true := beq_iff_eq.mpr c21
      have aZ : (ao != 2) = false := bne_eq_false_iff_eq.mpr c21
      clear c21
      replace H := Option.bind_eq_some_iff.mp H
      obtain ⟨⟨aB, aM⟩, bg, H⟩ := H
      (try dsimp only at H)
      have A22 := qa55 bg
      clear bg
      by_cases c23 : aB = 0
      ·rw [if_pos c23] at H
       have aY : (aB == 0) = true := beq_iff_eq.mpr c23
       have aX : (aB != 0) = false := bne_eq_false_iff_eq.mpr c23
       clear c23
       have H' := qa55 H
       clear H
       go_wp2_with (first | ((with_reducible refine gate_callee (f := 34) rfl ?_); refine goesL_ (some 22) rfl rfl Tryd.func34 (by kernel_rfl) rfl #[.pointer (some ⟨g, 0, none⟩), .int .i64 3] rfl (by (try simp only [qu55, List.map_cons, List.map_nil]) <;> rfl) ?_; (with_reducible refine (spec_l20Rd_pick.calls kj10 g s0_0 av 3 aB aM w0 _ ?side1 ?side2 A22.out).mono ?_); (case side1 => repeat (first | (with_reducible first | exact HI0.out | apply qj55 | apply qk55 | apply qm55 | apply ql55 | refine qe55 ?_ ad.out _ | refine qe55 ?_ ac.out _) | exact HI0.out)); (case side2 => repeat (first | (with_reducible first | exact HB.out | apply qp55 | apply qh55 | apply qq55 | refine qb55 ?_ (IsS71.ge HI0.out) | refine qb55 ?_ ai.out | refine qb55 ?_ ak.out) | exact HB.out)); rintro e w24 ⟨rfl, hi, hb, hk⟩; refine ⟨_, rfl, ?_⟩; have n0_ := qa55 (qr55 hk (g' := aj) (by (with_reducible repeat (first | apply qd55 | apply qf55 | apply qc55)); exact ab.out) al.out (by simp)); have n1_ := qa55 (qr55 hk (g' := am) (by (with_reducible repeat (first | apply qd55 | apply qf55 | apply qc55)); exact aa.out) af.out (by simp)); have n2_ := qa55 (qt55 (by repeat (first | (with_reducible first | exact HK.out | apply qi55 | apply qo55 | apply qs55 | apply qn55 | refine qg55 ?_ ae.out _ | refine qg55 ?_ ag.out _) | exact HK.out)) hk (.inl rfl)); have n3_ := qa55 (hb); have n4_ := qa55 (hi); replace ab := n0_; replace aa := n1_; replace HK := n2_; replace HB := n3_; replace HI0 := n4_; clear n0_ n1_ n2_ n3_ n4_; (try clear hb hk hi); have hnb25 := aq.out; have hnc25 := ah.out; have hnb26 := af.out; have hnc26 := ac.out; have a6 := bq55_ aa.out 0 rfl; have bd := bq55_ aa.out 1 rfl; have ba := blk_frozen aa.out 0; have bc := blk_frozen aa.out 1))
       go_meet
       case rel => exact ⟨_, (aM), (4), (0), H', ⟨by have := aK.out; first | omega | exact Nat.le_refl _⟩, ⟨by (with_reducible repeat (first | apply qd55 | apply qf55 | apply qc55)); refine blk_far ?_ ah.out _; (with_reducible repeat (first | apply qd55 | apply qf55 | apply qc55)); exact ab.out⟩, ⟨by (with_reducible repeat (first | apply qd55 | apply qf55 | apply qc55)); refine blk_put (cs := #[.int .i64 0, .int .i64 0]) ?_ 0 _ rfl; (with_reducible repeat (first | apply qd55 | apply qf55 | apply qc55)); exact aa.out⟩, ⟨by repeat (first | (with_reducible first | exact HI0.out | apply qj55 | apply qk55 | apply qm55 | apply ql55 | refine qe55 ?_ ad.out _ | refine qe55 ?_ ac.out _) | exact HI0.out)⟩, ⟨by repeat (first | (with_reducible first | exact HK.out | apply qi55 | apply qo55 | apply qs55 | apply qn55 | refine qg55 ?_ ae.out _ | refine qg55 ?_ ag.out _) | exact HK.out)⟩, ⟨by repeat (first | (with_reducible first | exact HB.out | apply qp55 | apply qh55 | apply qq55 | refine qb55 ?_ (IsS71.ge HI0.out) | refine qb55 ?_ ai.out | refine qb55 ?_ ak.out) | exact HB.out)⟩⟩
      ·rw [if_neg c23] at H
       have aY : (aB == 0) = false := beq_eq_false_iff_ne.mpr c23
       have aX : (aB != 0) = true := bne_iff_ne.mpr c23
       have H' := qa55 H
       clear H
       go_wp2_with (first | ((with_reducible refine gate_callee (f := 34) rfl ?_); refine goesL_ (some 22) rfl rfl Tryd.func34 (by kernel_rfl) rfl #[.pointer (some ⟨g, 0, none⟩), .int .i64 3] rfl (by (try simp only [qu55, List.map_cons, List.map_nil]) <;> rfl) ?_; (with_reducible refine (spec_l20Rd_pick.calls kj10 g s0_0 av 3 aB aM w0 _ ?side1 ?side2 A22.out).mono ?_); (case side1 => repeat (first | (with_reducible first | exact HI0.out | apply qj55 | apply qk55 | apply qm55 | apply ql55 | refine qe55 ?_ ad.out _ | refine qe55 ?_ ac.out _) | exact HI0.out)); (case side2 => repeat (first | (with_reducible first | exact HB.out | apply qp55 | apply qh55 | apply qq55 | refine qb55 ?_ (IsS71.ge HI0.out) | refine qb55 ?_ ai.out | refine qb55 ?_ ak.out) | exact HB.out)); rintro e w28 ⟨rfl, hi, hb, hk⟩; refine ⟨_, rfl, ?_⟩; have n0_ := qa55 (qr55 hk (g' := aj) (by (with_reducible repeat (first | apply qd55 | apply qf55 | apply qc55)); exact ab.out) al.out (by simp)); have n1_ := qa55 (qr55 hk (g' := am) (by (with_reducible repeat (first | apply qd55 | apply qf55 | apply qc55)); exact aa.out) af.out (by simp)); have n2_ := qa55 (qt55 (by repeat (first | (with_reducible first | exact HK.out | apply qi55 | apply qo55 | apply qs55 | apply qn55 | refine qg55 ?_ ae.out _ | refine qg55 ?_ ag.out _) | exact HK.out)) hk (.inl rfl)); have n3_ := qa55 (hb); have n4_ := qa55 (hi); replace ab := n0_; replace aa := n1_; replace HK := n2_; replace HB := n3_; replace HI0 := n4_; clear n0_ n1_ n2_ n3_ n4_; (try clear hb hk hi)))
       go_meet
       case rel => exact ⟨_, (aM), (0), (0), H', ⟨by have := aK.out; first | omega | exact Nat.le_refl _⟩, ⟨by (with_reducible repeat (first | apply qd55 | apply qf55 | apply qc55)); exact ab.out⟩, ⟨by (with_reducible repeat (first | apply qd55 | apply qf55 | apply qc55)); exact aa.out⟩, ⟨by repeat (first | (with_reducible first | exact HI0.out | apply qj55 | apply qk55 | apply qm55 | apply ql55 | refine qe55 ?_ ad.out _ | refine qe55 ?_ ac.out _) | exact HI0.out)⟩, ⟨by repeat (first | (with_reducible first | exact HK.out | apply qi55 | apply qo55 | apply qs55 | apply qn55 | refine qg55 ?_ ae.out _ | refine qg55 ?_ ag.out _) | exact HK.out)⟩, ⟨by repeat (first | (with_reducible first | exact HB.out | apply qp55 | apply qh55 | apply qq55 | refine qb55 ?_ (IsS71.ge HI0.out) | refine qb55 ?_ ai.out | refine qb55 ?_ ak.out) | exact HB.out)⟩⟩
     ·rw [if_neg c21] at H
      have a5 : (ao == 2) = false := beq_eq_false_iff_ne.mpr c21
      have aZ : (ao != 2) = true := bne_iff_ne.mpr c21
      have H' := qa55 H
      clear H
      go_wp2
      go_meet
      case rel => exact ⟨_, (av), (0), (0), H', ⟨by have := aK.out; first | omega | exact Nat.le_refl _⟩, ⟨by (with_reducible repeat (first | apply qd55 | apply qf55 | apply qc55)); exact ab.out⟩, ⟨by (with_reducible repeat (first | apply qd55 | apply qf55 | apply qc55)); exact aa.out⟩, ⟨by repeat (first | (with_reducible first | exact HI0.out | apply qj55 | apply qk55 | apply qm55 | apply ql55 | refine qe55 ?_ ad.out _ | refine qe55 ?_ ac.out _) | exact HI0.out)⟩, ⟨by repeat (first | (with_reducible first | exact HK.out | apply qi55 | apply qo55 | apply qs55 | apply qn55 | refine qg55 ?_ ae.out _ | refine qg55 ?_ ag.out _) | exact HK.out)⟩, ⟨by repeat (first | (with_reducible first | exact HB.out | apply qp55 | apply qh55 | apply qq55 | refine qb55 ?_ (IsS71.ge HI0.out) | refine qb55 ?_ ai.out | refine qb55 ?_ ak.out) | exact HB.out)⟩⟩
 case rest =>
  clear HC4
  try clear c1
  try clear c2
  try clear p2
  try clear c3
  try clear c5
  try clear p6
  try clear c7
  try clear c8
  try clear c12
  try clear ax
  try clear aL
  try clear c13
  try clear c18
  try clear c19
  try clear c21
  try clear a5
  try clear aZ
  try clear c23
  try clear aY
  try clear aX
  try clear c25
  try clear c26
  try clear a7
  try clear a8
  try clear a6
  try clear bd
  try clear aQ
  try clear aP
  try clear bb
  try clear a9
  try clear ba
  try clear bc
  try clear aO
  try clear aN
  try clear p2
  obtain ⟨kq, ar, an, ap, HA, HJ3, ab, aa, HI0, HK, HB⟩ := hcut
  cases kq with
  | zero => exact absurd HA.out (by simp [spec_l20Brd.j1])
  | succ kj3 =>
   have H := HA.out
   clear HA
   simp only [spec_l20Brd.j1] at H
   replace H := Option.bind_eq_some_iff.mp H
   obtain ⟨⟨az, aI⟩, bi, H⟩ := H
   (try dsimp only at H)
   have A29 := qa55 bi
   clear bi
   by_cases c30 : az = 0
   ·rw [if_pos c30] at H
    have bq : (az == 0) = true := beq_iff_eq.mpr c30
    have bs : (az != 0) = false := bne_eq_false_iff_eq.mpr c30
    clear c30
    replace H := Option.bind_eq_some_iff.mp H
    obtain ⟨⟨aA, ay⟩, bn, H⟩ := H
    (try dsimp only at H)
    have A31 := qa55 bn
    clear bn
    by_cases c32 : aA = 0
    ·rw [if_pos c32] at H
     have br : (aA == 0) = true := beq_iff_eq.mpr c32
     have bp : (aA != 0) = false := bne_eq_false_iff_eq.mpr c32
     clear c32
     obtain ⟨y153, aC⟩ : ∃ y_ : List Int, y_ = (([(-1), 5, 1] : List Int)) := ⟨_, rfl⟩
     replace H : ((spec_l20Rd_pick.f kj3 s0_0 ay 3).bind fun bt156 => (if 0 ≤ bt156.1 then (if bt156.1 < (y153.length : Int) then (some (rd y153 bt156.1, ap, bt156.2)) else (none)) else (none))) = some (r1, r2, r3) := by first | (rw [aC]; with_reducible exact H) | (have H2_ := (Option.bind_some _ _).symm.trans H; rw [aC]; with_reducible exact H2_) | (have H2_ := (Option.bind_some _ _).symm.trans H; with_reducible exact H2_) | with_reducible exact H | (rw [aC]; exact H) | exact H
     have a4 := qa55 aC
     clear aC
     replace H := Option.bind_eq_some_iff.mp H
     obtain ⟨⟨au, bv⟩, bf, H⟩ := H
     (try dsimp only at H)
     have A33 := qa55 bf
     clear bf
     by_cases c34 : 0 ≤ au
     ·rw [if_pos c34] at H
      have c34b0 : decide (0 ≤ au) = true := decide_eq_true c34
      clear c34
      by_cases c35 : au < (y153.length : Int)
      ·rw [if_pos c35] at H
       have c35b0 : decide (au < (y153.length : Int)) = true := decide_eq_true c35
       clear c35
       simp only [Option.some.injEq, Prod.mk.injEq] at H
       obtain ⟨rfl, rfl, rfl⟩ := H
       go_wp2_with (first | ((with_reducible refine gate_callee (f := 34) rfl ?_); refine goesL_ (some 27) rfl rfl Tryd.func34 (by kernel_rfl) rfl #[.pointer (some ⟨g, 0, none⟩), .int .i64 a1] rfl (by (try simp only [qu55, List.map_cons, List.map_nil]) <;> rfl) ?_; (with_reducible refine (spec_l20Rd_pick.calls kj3 g s0_0 ar a1 az aI w0 _ ?side1 ?side2 A29.out).mono ?_); (case side1 => repeat (first | (with_reducible first | exact HI0.out | apply qj55 | apply qk55 | apply qm55 | apply ql55 | refine qe55 ?_ ad.out _ | refine qe55 ?_ ac.out _) | exact HI0.out)); (case side2 => repeat (first | (with_reducible first | exact HB.out | apply qp55 | apply qh55 | apply qq55 | refine qb55 ?_ (IsS71.ge HI0.out) | refine qb55 ?_ ai.out | refine qb55 ?_ ak.out) | exact HB.out)); rintro e w36 ⟨rfl, hi, hb, hk⟩; refine ⟨_, rfl, ?_⟩; have n0_ := qa55 (qr55 hk (g' := aj) (by (with_reducible repeat (first | apply qd55 | apply qf55 | apply qc55)); exact ab.out) al.out (by simp)); have n1_ := qa55 (qr55 hk (g' := am) (by (with_reducible repeat (first | apply qd55 | apply qf55 | apply qc55)); exact aa.out) af.out (by simp)); have n2_ := qa55 (qt55 (by repeat (first | (with_reducible first | exact HK.out | apply qi55 | apply qo55 | apply qs55 | apply qn55 | refine qg55 ?_ ae.out _ | refine qg55 ?_ ag.out _) | exact HK.out)) hk (.inl rfl)); have n3_ := qa55 (hb); have n4_ := qa55 (hi); replace ab := n0_; replace aa := n1_; replace HK := n2_; replace HB := n3_; replace HI0 := n4_; clear n0_ n1_ n2_ n3_ n4_; (try clear hb hk hi)) | ((with_reducible refine gate_callee (f := 34) rfl ?_); refine goesL_ (some 30) rfl rfl Tryd.func34 (by kernel_rfl) rfl #[.pointer (some ⟨g, 0, none⟩), .int .i64 2] rfl (by (try simp only [qu55, List.map_cons, List.map_nil]) <;> rfl) ?_; (with_reducible refine (spec_l20Rd_pick.calls kj3 g s0_0 aI 2 aA ay w0 _ ?side1 ?side2 A31.out).mono ?_); (case side1 => repeat (first | (with_reducible first | exact HI0.out | apply qj55 | apply qk55 | apply qm55 | apply ql55 | refine qe55 ?_ ad.out _ | refine qe55 ?_ ac.out _) | exact HI0.out)); (case side2 => repeat (first | (with_reducible first | exact HB.out | apply qp55 | apply qh55 | apply qq55 | refine qb55 ?_ (IsS71.ge HI0.out) | refine qb55 ?_ ai.out | refine qb55 ?_ ak.out) | exact HB.out)); rintro e w37 ⟨rfl, hi, hb, hk⟩; refine ⟨_, rfl, ?_⟩; have n0_ := qa55 (qr55 hk (g' := aj) (by (with_reducible repeat (first | apply qd55 | apply qf55 | apply qc55)); exact ab.out) al.out (by simp)); have n1_ := qa55 (qr55 hk (g' := am) (by (with_reducible repeat (first | apply qd55 | apply qf55 | apply qc55)); exact aa.out) af.out (by simp)); have n2_ := qa55 (qt55 (by repeat (first | (with_reducible first | exact HK.out | apply qi55 | apply qo55 | apply qs55 | apply qn55 | refine qg55 ?_ ae.out _ | refine qg55 ?_ ag.out _) | exact HK.out)) hk (.inl rfl)); have n3_ := qa55 (hb); have n4_ := qa55 (hi); replace ab := n0_; replace aa := n1_; replace HK := n2_; replace HB := n3_; replace HI0 := n4_; clear n0_ n1_ n2_ n3_ n4_; (try clear hb hk hi)) | ((with_reducible refine gate_dst (N := 32) rfl ?_); refine Kd.R_lit (Kd.int .i64) _ 3 ?hg (N := 32) ?hd (xs := ([(-1), 5, 1] : List Int)) (inner := [.int .i64 (-1), .int .i64 5, .int .i64 1]) (ok := fun _ => True) (okp := fun _ => True) ?hr ?hp (fun _ hk => hk) trivial (Below.refl _ _) (Nat.le_refl _) (by simp) ?_; (case hd => rfl); (case hg => rfl); (case hr => go_simp <;> rfl); (case hp => exact (Reps.one (show Kd.M (Kd.int .i64) _ _ _ (-1) [.int .i64 (-1)] from rfl) (Reps.one (show Kd.M (Kd.int .i64) _ _ _ 5 [.int .i64 5] from rfl) (Reps.one (show Kd.M (Kd.int .i64) _ _ _ 1 [.int .i64 1] from rfl) (Reps.none _ _))))); intro v154 w38 aH hb hg_ hnew_; clear hg_ hnew_; (first | rw [← a4.out] at aH | (simp only [Int.reduceToNat] at aH; rw [← a4.out] at aH)); have n0_ := qa55 (Kd.R_lower aH (keep_size (w := w) (g := g) (row := none) (by repeat (first | (with_reducible first | exact HK.out | apply qi55 | apply qo55 | apply qs55 | apply qn55 | refine qg55 ?_ ae.out _ | refine qg55 ?_ ag.out _) | exact HK.out)))); have n1_ := qa55 (blk_below (g := aj) (by (with_reducible repeat (first | apply qd55 | apply qf55 | apply qc55)); exact ab.out) hb); have n2_ := qa55 (blk_below (g := am) (by (with_reducible repeat (first | apply qd55 | apply qf55 | apply qc55)); exact aa.out) hb); have n3_ := qa55 (IsS71.below (by repeat (first | (with_reducible first | exact HI0.out | apply qj55 | apply qk55 | apply qm55 | apply ql55 | refine qe55 ?_ ad.out _ | refine qe55 ?_ ac.out _) | exact HI0.out)) hb); have n4_ := qa55 (qt55 (by repeat (first | (with_reducible first | exact HK.out | apply qi55 | apply qo55 | apply qs55 | apply qn55 | refine qg55 ?_ ae.out _ | refine qg55 ?_ ag.out _) | exact HK.out)) (KeepBut.of_below hb g none) (.inl rfl)); have n5_ := qa55 (below_step (by repeat (first | (with_reducible first | exact HB.out | apply qp55 | apply qh55 | apply qq55 | refine qb55 ?_ (IsS71.ge HI0.out) | refine qb55 ?_ ai.out | refine qb55 ?_ ak.out) | exact HB.out)) hb); have aG := n0_; replace ab := n1_; replace aa := n2_; replace HI0 := n3_; replace HK := n4_; replace HB := n5_; clear n0_ n1_ n2_ n3_ n4_ n5_; clear hb aH) | ((with_reducible refine gate_callee (f := 34) rfl ?_); refine goesL_ (some 34) rfl rfl Tryd.func34 (by kernel_rfl) rfl #[.pointer (some ⟨g, 0, none⟩), .int .i64 3] rfl (by (try simp only [qu55, List.map_cons, List.map_nil]) <;> rfl) ?_; (with_reducible refine (spec_l20Rd_pick.calls kj3 g s0_0 ay 3 au bv w0 _ ?side1 ?side2 A33.out).mono ?_); (case side1 => repeat (first | (with_reducible first | exact HI0.out | apply qj55 | apply qk55 | apply qm55 | apply ql55 | refine qe55 ?_ ad.out _ | refine qe55 ?_ ac.out _) | exact HI0.out)); (case side2 => repeat (first | (with_reducible first | exact HB.out | apply qp55 | apply qh55 | apply qq55 | refine qb55 ?_ (IsS71.ge HI0.out) | refine qb55 ?_ ai.out | refine qb55 ?_ ak.out) | exact HB.out)); rintro e w40 ⟨rfl, hi, hb, hk⟩; refine ⟨_, rfl, ?_⟩; have n0_ := qa55 (qr55 hk (g' := aj) (by (with_reducible repeat (first | apply qd55 | apply qf55 | apply qc55)); exact ab.out) al.out (by simp)); have n1_ := qa55 (qr55 hk (g' := am) (by (with_reducible repeat (first | apply qd55 | apply qf55 | apply qc55)); exact aa.out) af.out (by simp)); have n2_ := qa55 (Kd.R_mono (Kd.R_keep (IsS71.apart (show IsS71 w0 _ g s0_0 ay from by repeat (first | (with_reducible first | exact HI0.out | apply qj55 | apply qk55 | apply qm55 | apply ql55 | refine qe55 ?_ ad.out _ | refine qe55 ?_ ac.out _) | exact HI0.out)) (by (with_reducible repeat (first | apply Kd.R_alloc | apply Kd.R_drewN | apply Kd.R_drew)); exact aG.out) (by decide)) hk (fun _ h => h.2)) (fun _ h => h.1)); have n3_ := qa55 (qt55 (by repeat (first | (with_reducible first | exact HK.out | apply qi55 | apply qo55 | apply qs55 | apply qn55 | refine qg55 ?_ ae.out _ | refine qg55 ?_ ag.out _) | exact HK.out)) hk (.inl rfl)); have n4_ := qa55 (hb); have n5_ := qa55 (hi); replace ab := n0_; replace aa := n1_; replace aG := n2_; replace HK := n3_; replace HB := n4_; replace HI0 := n5_; clear n0_ n1_ n2_ n3_ n4_ n5_; (try clear hb hk hi); obtain ⟨Ao41, co41, bt⟩ := Kd.R_slice aG.out; subst bt; have aV : 0 ≤ (au : Int) := of_decide_eq_true (by first | (with_reducible assumption) | assumption); have aS : au < (y153.length : Int) := of_decide_eq_true (by first | (with_reducible assumption) | assumption); obtain ⟨ad158, bw, bI⟩ := Kd.at_int (Kd.R_reads' aG.out).2.2 au aV aS; cases bw; replace aV := eq_true aV; replace aS := eq_true aS; have hnb42 := aq.out; have hnc42 := ah.out; have hnb43 := af.out; have hnc43 := ac.out; have bC := bq55_ aa.out 0 rfl; have bW := bq55_ aa.out 1 rfl; have bN := blk_frozen aa.out 0; have bB := blk_frozen aa.out 1; have hnb45 := al.out; have hnc45 := ad.out; have bO := bq55_ ab.out 0 rfl; have bQ := bq55_ ab.out 1 rfl; have bS := blk_frozen ab.out 0; have bE := blk_frozen ab.out 1))
       refine bodyPost_ret (results_cell_row rfl _ _ aj 35 #[.int .i64 (rd y153 au), .int .i64 ap] (0, 0) _ rfl (by (with_reducible repeat (first | apply qd55 | apply qf55 | apply qc55)); refine blk_put (cs := #[.int .i64 (rd y153 au), .int .i64 0]) ?_ 1 _ rfl; refine blk_put (cs := #[.int .i64 0, .int .i64 0]) ?_ 0 _ rfl; refine blk_far ?_ ah.out _; (with_reducible repeat (first | apply qd55 | apply qf55 | apply qc55)); exact ab.out) Tryd.underlying35 rfl (by kernel_rfl)) rfl ?_
       exact ⟨by first | rfl | (simp [errW_none, errW_some] <;> rfl) | (simp [*, errW_none, errW_some] <;> rfl), by repeat (first | (with_reducible first | exact HI0.out | apply qj55 | apply qk55 | apply qm55 | apply ql55 | refine qe55 ?_ ad.out _ | refine qe55 ?_ ac.out _) | exact HI0.out), by repeat (first | (with_reducible first | exact HB.out | apply qp55 | apply qh55 | apply qq55 | refine qb55 ?_ (IsS71.ge HI0.out) | refine qb55 ?_ ai.out | refine qb55 ?_ ak.out) | exact HB.out), by repeat (first | (with_reducible first | exact HK.out | apply qi55 | apply qo55 | apply qs55 | apply qn55 | refine qg55 ?_ ae.out _ | refine qg55 ?_ ag.out _) | exact HK.out)⟩
      ·rw [if_neg c35] at H
       exact absurd H (by simp)
     ·rw [if_neg c34] at H
      exact absurd H (by simp)
    ·rw [if_neg c32] at H
     have br : (aA == 0) = false := beq_eq_false_iff_ne.mpr c32
     have bp : (aA != 0) = true := bne_iff_ne.mpr c32
     obtain ⟨y159, aD⟩ : ∃ y_ : List Int, y_ = (([(-1), 4, 0, 1] : List Int)) := ⟨_, rfl⟩
     replace H : ((spec_l20Rd_pick.f kj3 s0_0 ay 4).bind fun bt162 => (if 0 ≤ bt162.1 then (if bt162.1 < (y159.length : Int) then (some (an, rd y159 bt162.1, bt162.2)) else (none)) else (none))) = some (r1, r2, r3) := by first | (rw [aD]; with_reducible exact H) | (have H2_ := (Option.bind_some _ _).symm.trans H; rw [aD]; with_reducible exact H2_) | (have H2_ := (Option.bind_some _ _).symm.trans H; with_reducible exact H2_) | with_reducible exact H | (rw [aD]; exact H) | exact H
     have a3 := qa55 aD
     clear aD
     replace H := Option.bind_eq_some_iff.mp H
     obtain ⟨⟨aw, bz⟩, bo, H⟩ := H
     (try dsimp only at H)
     have A47 := qa55 bo
     clear bo
     by_cases c48 : 0 ≤ aw
     ·rw [if_pos c48] at H
      have c48b0 : decide (0 ≤ aw) = true := decide_eq_true c48
      clear c48
      by_cases c49 : aw < (y159.length : Int)
      ·rw [if_pos c49] at H
       have c49b0 : decide (aw < (y159.length : Int)) = true := decide_eq_true c49
       clear c49
       simp only [Option.some.injEq, Prod.mk.injEq] at H
       obtain ⟨rfl, rfl, rfl⟩ := H
       go_wp2_with (first | ((with_reducible refine gate_callee (f := 34) rfl ?_); refine goesL_ (some 27) rfl rfl Tryd.func34 (by kernel_rfl) rfl #[.pointer (some ⟨g, 0, none⟩), .int .i64 a1] rfl (by (try simp only [qu55, List.map_cons, List.map_nil]) <;> rfl) ?_; (with_reducible refine (spec_l20Rd_pick.calls kj3 g s0_0 ar a1 az aI w0 _ ?side1 ?side2 A29.out).mono ?_); (case side1 => repeat (first | (with_reducible first | exact HI0.out | apply qj55 | apply qk55 | apply qm55 | apply ql55 | refine qe55 ?_ ad.out _ | refine qe55 ?_ ac.out _) | exact HI0.out)); (case side2 => repeat (first | (with_reducible first | exact HB.out | apply qp55 | apply qh55 | apply qq55 | refine qb55 ?_ (IsS71.ge HI0.out) | refine qb55 ?_ ai.out | refine qb55 ?_ ak.out) | exact HB.out)); rintro e w50 ⟨rfl, hi, hb, hk⟩; refine ⟨_, rfl, ?_⟩; have n0_ := qa55 (qr55 hk (g' := aj) (by (with_reducible repeat (first | apply qd55 | apply qf55 | apply qc55)); exact ab.out) al.out (by simp)); have n1_ := qa55 (qr55 hk (g' := am) (by (with_reducible repeat (first | apply qd55 | apply qf55 | apply qc55)); exact aa.out) af.out (by simp)); have n2_ := qa55 (qt55 (by repeat (first | (with_reducible first | exact HK.out | apply qi55 | apply qo55 | apply qs55 | apply qn55 | refine qg55 ?_ ae.out _ | refine qg55 ?_ ag.out _) | exact HK.out)) hk (.inl rfl)); have n3_ := qa55 (hb); have n4_ := qa55 (hi); replace ab := n0_; replace aa := n1_; replace HK := n2_; replace HB := n3_; replace HI0 := n4_; clear n0_ n1_ n2_ n3_ n4_; (try clear hb hk hi)) | ((with_reducible refine gate_callee (f := 34) rfl ?_); refine goesL_ (some 30) rfl rfl Tryd.func34 (by kernel_rfl) rfl #[.pointer (some ⟨g, 0, none⟩), .int .i64 2] rfl (by (try simp only [qu55, List.map_cons, List.map_nil]) <;> rfl) ?_; (with_reducible refine (spec_l20Rd_pick.calls kj3 g s0_0 aI 2 aA ay w0 _ ?side1 ?side2 A31.out).mono ?_); (case side1 => repeat (first | (with_reducible first | exact HI0.out | apply qj55 | apply qk55 | apply qm55 | apply ql55 | refine qe55 ?_ ad.out _ | refine qe55 ?_ ac.out _) | exact HI0.out)); (case side2 => repeat (first | (with_reducible first | exact HB.out | apply qp55 | apply qh55 | apply qq55 | refine qb55 ?_ (IsS71.ge HI0.out) | refine qb55 ?_ ai.out | refine qb55 ?_ ak.out) | exact HB.out)); rintro e w51 ⟨rfl, hi, hb, hk⟩; refine ⟨_, rfl, ?_⟩; have n0_ := qa55 (qr55 hk (g' := aj) (by (with_reducible repeat (first | apply qd55 | apply qf55 | apply qc55)); exact ab.out) al.out (by simp)); have n1_ := qa55 (qr55 hk (g' := am) (by (with_reducible repeat (first | apply qd55 | apply qf55 | apply qc55)); exact aa.out) af.out (by simp)); have n2_ := qa55 (qt55 (by repeat (first | (with_reducible first | exact HK.out | apply qi55 | apply qo55 | apply qs55 | apply qn55 | refine qg55 ?_ ae.out _ | refine qg55 ?_ ag.out _) | exact HK.out)) hk (.inl rfl)); have n3_ := qa55 (hb); have n4_ := qa55 (hi); replace ab := n0_; replace aa := n1_; replace HK := n2_; replace HB := n3_; replace HI0 := n4_; clear n0_ n1_ n2_ n3_ n4_; (try clear hb hk hi)) | ((with_reducible refine gate_dst (N := 38) rfl ?_); refine Kd.R_lit (Kd.int .i64) _ 3 ?hg (N := 38) ?hd (xs := ([(-1), 4, 0, 1] : List Int)) (inner := [.int .i64 (-1), .int .i64 4, .int .i64 0, .int .i64 1]) (ok := fun _ => True) (okp := fun _ => True) ?hr ?hp (fun _ hk => hk) trivial (Below.refl _ _) (Nat.le_refl _) (by simp) ?_; (case hd => rfl); (case hg => rfl); (case hr => go_simp <;> rfl); (case hp => exact (Reps.one (show Kd.M (Kd.int .i64) _ _ _ (-1) [.int .i64 (-1)] from rfl) (Reps.one (show Kd.M (Kd.int .i64) _ _ _ 4 [.int .i64 4] from rfl) (Reps.one (show Kd.M (Kd.int .i64) _ _ _ 0 [.int .i64 0] from rfl) (Reps.one (show Kd.M (Kd.int .i64) _ _ _ 1 [.int .i64 1] from rfl) (Reps.none _ _)))))); intro v160 w52 aJ hb hg_ hnew_; clear hg_ hnew_; (first | rw [← a3.out] at aJ | (simp only [Int.reduceToNat] at aJ; rw [← a3.out] at aJ)); have n0_ := qa55 (Kd.R_lower aJ (keep_size (w := w) (g := g) (row := none) (by repeat (first | (with_reducible first | exact HK.out | apply qi55 | apply qo55 | apply qs55 | apply qn55 | refine qg55 ?_ ae.out _ | refine qg55 ?_ ag.out _) | exact HK.out)))); have n1_ := qa55 (blk_below (g := aj) (by (with_reducible repeat (first | apply qd55 | apply qf55 | apply qc55)); exact ab.out) hb); have n2_ := qa55 (blk_below (g := am) (by (with_reducible repeat (first | apply qd55 | apply qf55 | apply qc55)); exact aa.out) hb); have n3_ := qa55 (IsS71.below (by repeat (first | (with_reducible first | exact HI0.out | apply qj55 | apply qk55 | apply qm55 | apply ql55 | refine qe55 ?_ ad.out _ | refine qe55 ?_ ac.out _) | exact HI0.out)) hb); have n4_ := qa55 (qt55 (by repeat (first | (with_reducible first | exact HK.out | apply qi55 | apply qo55 | apply qs55 | apply qn55 | refine qg55 ?_ ae.out _ | refine qg55 ?_ ag.out _) | exact HK.out)) (KeepBut.of_below hb g none) (.inl rfl)); have n5_ := qa55 (below_step (by repeat (first | (with_reducible first | exact HB.out | apply qp55 | apply qh55 | apply qq55 | refine qb55 ?_ (IsS71.ge HI0.out) | refine qb55 ?_ ai.out | refine qb55 ?_ ak.out) | exact HB.out)) hb); have aE := n0_; replace ab := n1_; replace aa := n2_; replace HI0 := n3_; replace HK := n4_; replace HB := n5_; clear n0_ n1_ n2_ n3_ n4_ n5_; clear hb aJ) | ((with_reducible refine gate_callee (f := 34) rfl ?_); refine goesL_ (some 40) rfl rfl Tryd.func34 (by kernel_rfl) rfl #[.pointer (some ⟨g, 0, none⟩), .int .i64 4] rfl (by (try simp only [qu55, List.map_cons, List.map_nil]) <;> rfl) ?_; (with_reducible refine (spec_l20Rd_pick.calls kj3 g s0_0 ay 4 aw bz w0 _ ?side1 ?side2 A47.out).mono ?_); (case side1 => repeat (first | (with_reducible first | exact HI0.out | apply qj55 | apply qk55 | apply qm55 | apply ql55 | refine qe55 ?_ ad.out _ | refine qe55 ?_ ac.out _) | exact HI0.out)); (case side2 => repeat (first | (with_reducible first | exact HB.out | apply qp55 | apply qh55 | apply qq55 | refine qb55 ?_ (IsS71.ge HI0.out) | refine qb55 ?_ ai.out | refine qb55 ?_ ak.out) | exact HB.out)); rintro e w54 ⟨rfl, hi, hb, hk⟩; refine ⟨_, rfl, ?_⟩; have n0_ := qa55 (qr55 hk (g' := aj) (by (with_reducible repeat (first | apply qd55 | apply qf55 | apply qc55)); exact ab.out) al.out (by simp)); have n1_ := qa55 (qr55 hk (g' := am) (by (with_reducible repeat (first | apply qd55 | apply qf55 | apply qc55)); exact aa.out) af.out (by simp)); have n2_ := qa55 (Kd.R_mono (Kd.R_keep (IsS71.apart (show IsS71 w0 _ g s0_0 ay from by repeat (first | (with_reducible first | exact HI0.out | apply qj55 | apply qk55 | apply qm55 | apply ql55 | refine qe55 ?_ ad.out _ | refine qe55 ?_ ac.out _) | exact HI0.out)) (by (with_reducible repeat (first | apply Kd.R_alloc | apply Kd.R_drewN | apply Kd.R_drew)); exact aE.out) (by decide)) hk (fun _ h => h.2)) (fun _ h => h.1)); have n3_ := qa55 (qt55 (by repeat (first | (with_reducible first | exact HK.out | apply qi55 | apply qo55 | apply qs55 | apply qn55 | refine qg55 ?_ ae.out _ | refine qg55 ?_ ag.out _) | exact HK.out)) hk (.inl rfl)); have n4_ := qa55 (hb); have n5_ := qa55 (hi); replace ab := n0_; replace aa := n1_; replace aE := n2_; replace HK := n3_; replace HB := n4_; replace HI0 := n5_; clear n0_ n1_ n2_ n3_ n4_ n5_; (try clear hb hk hi); obtain ⟨Ao55, co55, bu⟩ := Kd.R_slice aE.out; subst bu; have aT : 0 ≤ (aw : Int) := of_decide_eq_true (by first | (with_reducible assumption) | assumption); have aR : aw < (y159.length : Int) := of_decide_eq_true (by first | (with_reducible assumption) | assumption); obtain ⟨ad164, bx, bR⟩ := Kd.at_int (Kd.R_reads' aE.out).2.2 aw aT aR; cases bx; replace aT := eq_true aT; replace aR := eq_true aR; have hnb56 := aq.out; have hnc56 := ah.out; have hnb57 := af.out; have hnc57 := ac.out; have bA := bq55_ aa.out 0 rfl; have bT := bq55_ aa.out 1 rfl; have bG := blk_frozen aa.out 0; have bK := blk_frozen aa.out 1; have hnb59 := al.out; have hnc59 := ad.out; have bX := bq55_ ab.out 0 rfl; have bM := bq55_ ab.out 1 rfl; have bU := blk_frozen ab.out 0; have bJ := blk_frozen ab.out 1))
       refine bodyPost_ret (results_cell_row rfl _ _ aj 35 #[.int .i64 an, .int .i64 (rd y159 aw)] (0, 0) _ rfl (by (with_reducible repeat (first | apply qd55 | apply qf55 | apply qc55)); refine blk_put (cs := #[.int .i64 an, .int .i64 0]) ?_ 1 _ rfl; refine blk_put (cs := #[.int .i64 0, .int .i64 0]) ?_ 0 _ rfl; refine blk_far ?_ ah.out _; (with_reducible repeat (first | apply qd55 | apply qf55 | apply qc55)); exact ab.out) Tryd.underlying35 rfl (by kernel_rfl)) rfl ?_
       exact ⟨by first | rfl | (simp [errW_none, errW_some] <;> rfl) | (simp [*, errW_none, errW_some] <;> rfl), by repeat (first | (with_reducible first | exact HI0.out | apply qj55 | apply qk55 | apply qm55 | apply ql55 | refine qe55 ?_ ad.out _ | refine qe55 ?_ ac.out _) | exact HI0.out), by repeat (first | (with_reducible first | exact HB.out | apply qp55 | apply qh55 | apply qq55 | refine qb55 ?_ (IsS71.ge HI0.out) | refine qb55 ?_ ai.out | refine qb55 ?_ ak.out) | exact HB.out), by repeat (first | (with_reducible first | exact HK.out | apply qi55 | apply qo55 | apply qs55 | apply qn55 | refine qg55 ?_ ae.out _ | refine qg55 ?_ ag.out _) | exact HK.out)⟩
      ·rw [if_neg c49] at H
       exact absurd H (by simp)
     ·rw [if_neg c48] at H
      exact absurd H (by simp)
   ·rw [if_neg c30] at H
    have bq : (az == 0) = false := beq_eq_false_iff_ne.mpr c30
    have bs : (az != 0) = true := bne_iff_ne.mpr c30
    simp only [Option.some.injEq, Prod.mk.injEq] at H
    obtain ⟨rfl, rfl, rfl⟩ := H
    go_wp2_with (first | ((with_reducible refine gate_callee (f := 34) rfl ?_); refine goesL_ (some 27) rfl rfl Tryd.func34 (by kernel_rfl) rfl #[.pointer (some ⟨g, 0, none⟩), .int .i64 a1] rfl (by (try simp only [qu55, List.map_cons, List.map_nil]) <;> rfl) ?_; (with_reducible refine (spec_l20Rd_pick.calls kj3 g s0_0 ar a1 az aI w0 _ ?side1 ?side2 A29.out).mono ?_); (case side1 => repeat (first | (with_reducible first | exact HI0.out | apply qj55 | apply qk55 | apply qm55 | apply ql55 | refine qe55 ?_ ad.out _ | refine qe55 ?_ ac.out _) | exact HI0.out)); (case side2 => repeat (first | (with_reducible first | exact HB.out | apply qp55 | apply qh55 | apply qq55 | refine qb55 ?_ (IsS71.ge HI0.out) | refine qb55 ?_ ai.out | refine qb55 ?_ ak.out) | exact HB.out)); rintro e w61 ⟨rfl, hi, hb, hk⟩; refine ⟨_, rfl, ?_⟩; have n0_ := qa55 (qr55 hk (g' := aj) (by (with_reducible repeat (first | apply qd55 | apply qf55 | apply qc55)); exact ab.out) al.out (by simp)); have n1_ := qa55 (qr55 hk (g' := am) (by (with_reducible repeat (first | apply qd55 | apply qf55 | apply qc55)); exact aa.out) af.out (by simp)); have n2_ := qa55 (qt55 (by repeat (first | (with_reducible first | exact HK.out | apply qi55 | apply qo55 | apply qs55 | apply qn55 | refine qg55 ?_ ae.out _ | refine qg55 ?_ ag.out _) | exact HK.out)) hk (.inl rfl)); have n3_ := qa55 (hb); have n4_ := qa55 (hi); replace ab := n0_; replace aa := n1_; replace HK := n2_; replace HB := n3_; replace HI0 := n4_; clear n0_ n1_ n2_ n3_ n4_; (try clear hb hk hi); have hnb62 := aq.out; have hnc62 := ah.out; have hnb63 := af.out; have hnc63 := ac.out; have bL := bq55_ aa.out 0 rfl; have bD := bq55_ aa.out 1 rfl; have bH := blk_frozen aa.out 0; have bF := blk_frozen aa.out 1; have hnb65 := al.out; have hnc65 := ad.out; have bV := bq55_ ab.out 0 rfl; have bY := bq55_ ab.out 1 rfl; have bZ := blk_frozen ab.out 0; have bP := blk_frozen ab.out 1))
    refine bodyPost_ret (results_cell_row rfl _ _ aj 35 #[.int .i64 an, .int .i64 ap] (0, 0) _ rfl (by (with_reducible repeat (first | apply qd55 | apply qf55 | apply qc55)); refine blk_put (cs := #[.int .i64 an, .int .i64 0]) ?_ 1 _ rfl; refine blk_put (cs := #[.int .i64 0, .int .i64 0]) ?_ 0 _ rfl; (with_reducible repeat (first | apply qd55 | apply qf55 | apply qc55)); exact ab.out) Tryd.underlying35 rfl (by kernel_rfl)) rfl ?_
    exact ⟨by first | rfl | (simp [errW_none, errW_some] <;> rfl) | (simp [*, errW_none, errW_some] <;> rfl), by repeat (first | (with_reducible first | exact HI0.out | apply qj55 | apply qk55 | apply qm55 | apply ql55 | refine qe55 ?_ ad.out _ | refine qe55 ?_ ac.out _) | exact HI0.out), by repeat (first | (with_reducible first | exact HB.out | apply qp55 | apply qh55 | apply qq55 | refine qb55 ?_ (IsS71.ge HI0.out) | refine qb55 ?_ ai.out | refine qb55 ?_ ak.out) | exact HB.out), by repeat (first | (with_reducible first | exact HK.out | apply qi55 | apply qo55 | apply qs55 | apply qn55 | refine qg55 ?_ ae.out _ | refine qg55 ?_ ag.out _) | exact HK.out)⟩
end Go.Proofs.YtnednnnegofhkaaDoor.Pr
