/- A part of what the claim of 'FnExactGrdBlocks' leans on. -/
import Derived.Test.YtemcdfkmpikegaaFnExactGrdBlocksPr0
import Derived.Test.YtemcdfkmpikegaaFnExactGrdBlocksPr42
import Derived.Test.YtemcdfkmpikegaaFnExactGrdBlocksPr19
import Derived.Test.YtemcdfkmpikegaaFnExactGrdBlocksPr44
namespace Go.Proofs.Ytemcdfkmpikegaa.Pr
open Go.RowKit Go.Proofs.YtemcdfkmpikegaaW.PrintWords Go.Proofs.YtemcdfkmpikegaaW.PrintLast Go.Proofs.YtemcdfkmpikegaaW.PrintMore
attribute [local go_sem] max2_int min2_int max_two min_two max_three min_three max_four min_four
set_option linter.unusedVariables false
set_option linter.unusedSimpArgs false
def blocksL (l : List S65) : Nat → List Int
  | 0 => []
  | n + 1 => if l.any (overB (n : Int)) = true then blocksL l n else blocksL l n ++ [(n : Int)]
theorem blocksL_le (l : List S65) : ∀ n, (blocksL l n).length ≤ n
  | 0 => Nat.le_refl _
  | n + 1 => by
    have := blocksL_le l n
    unfold blocksL
    split
    · omega
    · simp; omega
def impl_GrdBlocks.f (k : Nat) (a0_0 a0_1 : Int) (l0_2 : List S65) : Option (List Int) :=
  (impl_GrdOk.f k a0_0 a0_1 l0_2).bind fun ok => if ok = true then (if 0 ≤ a0_0 ∧ a0_0 ≤ 8 then some (blocksL l0_2 a0_0.toNat) else none) else some []
theorem impl_GrdBlocks.mono : ∀ a0_0 a0_1 l0_2 k, LeO (impl_GrdBlocks.f k a0_0 a0_1 l0_2) (impl_GrdBlocks.f (k + 1) a0_0 a0_1 l0_2) := by
  intro a b c k
  unfold impl_GrdBlocks.f
  exact LeO.bind (impl_GrdOk.mono _ _ _ _) (fun _ => LeO.refl _)
set_option maxHeartbeats 4000000 in
set_option maxRecDepth 100000 in
theorem impl_GrdBlocks.calls (k : Nat) (a0_0 a0_1 : Int) (A0_2 : Option Addr) (c0_2 : Nat) (l0_2 : List S65) (r : List Int) (w : World) (hr0_2 : Kd.C k65 w A0_2 l0_2.length l0_2) (hc0_2 : l0_2.length ≤ c0_2) (h : impl_GrdBlocks.f k a0_0 a0_1 l0_2 = some r) :
    Calls Try.prog 23 #[.agg #[.int .i64 a0_0, .int .i64 a0_1, .slice A0_2 l0_2.length c0_2]] w fun e w' => ∃ v0_ : Value, e = .returned (v0_) ∧ Kd.R (Kd.int .i64) 3 w' w.heap.size (fun _ => True) v0_ r ∧ Below w.heap.size w w' := by
  unfold impl_GrdBlocks.f at h
  obtain ⟨ok, hok, h⟩ := Option.bind_eq_some_iff.mp h
  have bel : ∀ o, Below w.heap.size w (w.alloc o) := fun o => below_alloc (Below.refl w.heap.size w) o
  have hcall : ∀ o, Calls Try.prog 19 #[.agg #[.int .i64 a0_0, .int .i64 a0_1, .slice A0_2 l0_2.length c0_2]] (w.alloc o) fun e w' => e = .returned (.bool ok) ∧ Below (w.alloc o).heap.size (w.alloc o) w' :=
    fun o => impl_GrdOk.calls k a0_0 a0_1 A0_2 c0_2 l0_2 ok _ (Kd.C_below hr0_2 (bel o)) hc0_2 hok
  have HC := Aside0.mk hcall
  clear hcall hok
  cases ok with
  | false =>
    obtain rfl : [] = r := Option.some.inj h
    clear h hr0_2
    have HBel := Aside0.mk bel
    clear bel
    go_enter Try.func23, Try.ntmps23
    go_wp2_with (go_at_call 19; refine (HC.out _).mono ?_; rintro e w' ⟨rfl, hb'⟩)
    go_ret
    exact ⟨_, rfl, Kd.R_nil _ _ _ _ _, below_then (HBel.out _) (HBel.out _).size hb'⟩
  | true =>
    rw [if_pos rfl] at h
    by_cases hn : 0 ≤ a0_0 ∧ a0_0 ≤ 8
    case neg => rw [if_neg hn] at h; cases h
    rw [if_pos hn] at h
    obtain rfl := Option.some.inj h
    clear h
    obtain ⟨n, rfl⟩ : ∃ n : Nat, a0_0 = n := ⟨a0_0.toNat, by omega⟩
    have hn8 : n ≤ 8 := by omega
    clear hn
    have HR := Aside0.mk hr0_2
    have HBel := Aside0.mk bel
    clear hr0_2 bel
    go_enter Try.func23, Try.ntmps23
    go_wp2_with (go_at_call 19; refine (HC.out _).mono ?_; rintro e w1 ⟨rfl, hb'⟩; have HB1 := Aside0.mk (below_then (HBel.out _) (HBel.out _).size hb'); have HK1 := Aside0.mk (blk_below (blk_new w _) hb'); have hz0 := (blk_cell HK1.out 0).trans rfl; have hz2 := (blk_cell HK1.out 2).trans rfl; clear hb')
    go_loopg [3, 10] n (fun gk v3 v10 wr => ∃ j : Nat, j ≤ n ∧ n - j ≤ gk ∧ v10 = .int .i64 j ∧ Aside0 (Kd.R (Kd.int .i64) 3 wr w.heap.size (fun _ => True) v3 (blocksL l0_2 j)) ∧ Aside0 (wr.heap[w.heap.size]? = some (.cells #[.int .i64 n, .int .i64 a0_1, .slice A0_2 l0_2.length c0_2] 42 (0, 0))) ∧ Aside0 (Below w.heap.size w wr))
    case atStart => exact ⟨0, Nat.zero_le _, by omega, rfl, ⟨Kd.R_nil _ _ _ _ _⟩, HK1, HB1⟩
    case round =>
      clear HB1 HK1 hz0 hz2
      obtain ⟨j, hj, hg, rfl, HO, HK, HB⟩ := hrel
      by_cases hlt : j < n
      · have hltz : (j : Int) < (n : Int) := by omega
        have hz0 : wr.cell? ⟨w.heap.size, 0, none⟩ = some (.int .i64 n) := (blk_cell HK.out 0).trans rfl
        have hz2 : wr.cell? ⟨w.heap.size, 2, none⟩ = some (.slice A0_2 l0_2.length c0_2) := (blk_cell HK.out 2).trans rfl
        have hcall : ∀ (W : World) (g : Nat), Below w.heap.size w W → W.cell? ⟨g, 0, none⟩ = some (.int .i64 j) → Calls Try.prog 42 #[.slice A0_2 l0_2.length c0_2, .func (.func 44) #[] #[.pointer (some ⟨g, 0, none⟩)]] W fun e w' => e = .returned (.bool (l0_2.any (overB j))) ∧ Below W.heap.size W w' := fun W g hb hcell => by
          refine contGrd_calls (overB j) 44 _ _ (enters_ Try.func44 (by kernel_rfl) rfl) A0_2 c0_2 l0_2 W (Kd.C_below HR.out hb) hc0_2 (fun W' x _ hb' => ?_)
          exact overB_calls j g x.f0 x.f1 x.f2 x.f3 x.f4 W' ((hb'.cell (World.block_lt_of_cell? W _ hcell)).trans hcell)
        have hlen := blocksL_le l0_2 j
        have hlw : w.heap.size < wr.heap.size := blk_lt HK.out
        have hne : ¬ w.heap.size = wr.heap.size := by omega
        cases hq : l0_2.any (overB j) with
        | true =>
          rw [hq] at hcall
          have HCC := Aside0.mk hcall
          have HE := Aside0.mk (show blocksL l0_2 (j + 1) = blocksL l0_2 j by rw [blocksL, if_pos hq])
          clear hcall hq hlen
          go_wp2_with (first | (go_at_call 42; refine (HCC.out _ wr.heap.size (below_alloc HB.out _) (cell_of_one (blk_new wr _))).mono ?_; rintro e w5 ⟨rfl, hb5⟩; have hz19 : w5.cell? ⟨wr.heap.size, 0, none⟩ = some (.int .i64 j) := cell_of_one (blk_below (blk_new wr _) hb5); have HB5 := Aside0.mk (below_then (below_alloc (Below.refl wr.heap.size wr) _) (below_alloc (Below.refl wr.heap.size wr) _).size hb5); clear hb5))
          go_roundg (n - (j + 1))
          case measure => omega
          case rel =>
            exact ⟨j + 1, by omega, by omega, by go_num, ⟨by rw [HE.out]; exact Kd.R_below HO.out HB5.out⟩, ⟨blk_below HK.out HB5.out⟩, ⟨below_step HB.out HB5.out⟩⟩
        | false =>
          rw [hq] at hcall
          have HCC := Aside0.mk hcall
          have HE := Aside0.mk (show blocksL l0_2 (j + 1) = blocksL l0_2 j ++ [(j : Int)] by rw [blocksL, if_neg (by rw [hq]; simp)])
          have HL := Aside0.mk hlen
          clear hcall hq hlen
          go_wp2_with (first | (go_at_call 42; refine (HCC.out _ wr.heap.size (below_alloc HB.out _) (cell_of_one (blk_new wr _))).mono ?_; rintro e w5 ⟨rfl, hb5⟩; have hz19 : w5.cell? ⟨wr.heap.size, 0, none⟩ = some (.int .i64 j) := cell_of_one (blk_below (blk_new wr _) hb5); have HB5 := Aside0.mk (below_then (below_alloc (Below.refl wr.heap.size wr) _) (below_alloc (Below.refl wr.heap.size wr) _).size hb5); clear hb5) | ((with_reducible refine gate_builtin (b := .append) (xs := #[.tmp 18, .tmp 20]) rfl ?_); at_builtin; refine Kd.R_append (Kd.int .i64) (w0 := w) w.heap.size rfl (.tmp 18) (.tmp 20) 49 3 (.int .i64 0) 8 rfl Try.underlying49 info3 rfl (by decide) (by omega) u3 (blocksL l0_2 j) (j : Int) [.int .i64 j] (fun _ => True) (fun _ => False) rfl rfl ?aP (fun _ hk => hk.elim) ?aF ?aO ?aB ?aS ?aL ?_; (case aP => exact rfl); (case aB => exact below_step HB.out HB5.out); (case aF => exact (fun _ _ => trivial)); (case aO => exact Kd.R_below HO.out HB5.out); (case aS => exact below_size (below_step HB.out HB5.out)); (case aL => have := HL.out; omega); intro v21 w21 ho hb hg' hat; have HO2 := Aside0.mk ho; have HB2 := Aside0.mk hb; have HK2 := Aside0.mk (blk_grown (blk_below HK.out HB5.out) hg' (Kd.R_ne HO.out HK.out (by decide))); clear ho hb hg' hat))
          go_roundg (n - (j + 1))
          case measure => omega
          case rel =>
            exact ⟨j + 1, by omega, by omega, by go_num, ⟨by rw [HE.out]; exact HO2.out⟩, HK2, HB2⟩
      · have hltz : ¬ (j : Int) < (n : Int) := by omega
        obtain rfl : j = n := by omega
        go_wp2
        go_ret
        exact ⟨_, rfl, HO.out, HB.out⟩
end Go.Proofs.Ytemcdfkmpikegaa.Pr
