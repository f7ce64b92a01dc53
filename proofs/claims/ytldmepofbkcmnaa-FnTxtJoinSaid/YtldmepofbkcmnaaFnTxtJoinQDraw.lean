/- A part of what the claim of 'FnTxtJoin' leans on. -/
import Derived.Test.YtldmepofbkcmnaaFnTxtJoinPr0
import Derived.Test.YtldmepofbkcmnaaFnTxtJoinPr7
import Derived.Test.YtldmepofbkcmnaaFnTxtJoinPr8
import Derived.Test.YtldmepofbkcmnaaFnTxtJoinQk0
set_option linter.unusedVariables false
set_option linter.unusedSimpArgs false
namespace Go.Proofs.Ytldmepofbkcmnaa.Pure
open Go.RowKit Go.Proofs.Ytldmepofbkcmnaa.Pr Go.Proofs.YtldmepofbkcmnaaW.PrintWords Go.Proofs.YtldmepofbkcmnaaW.PrintLast Go.Proofs.YtldmepofbkcmnaaW.PrintMore
theorem ofInt_i64 (a : Nat) (ha : a < 18446744073709551616) : (BitVec.ofInt 64 (a : Int)).toNat = a := by
  rw [BitVec.ofInt_natCast, BitVec.toNat_ofNat]; exact Nat.mod_eq_of_lt (by omega)
theorem xor_i64 (a b : Int) (h1 : 0 ≤ a) (h2 : a < 4611686018427387904) (h3 : 0 ≤ b) (h4 : b < 4611686018427387904) : 0 ≤ Go.bits .xor .i64 a b := by
  obtain ⟨A, rfl⟩ := Int.eq_ofNat_of_zero_le h1
  obtain ⟨B, rfl⟩ := Int.eq_ofNat_of_zero_le h3
  have hx : A ^^^ B < 2 ^ 62 := Nat.xor_lt_two_pow (by omega) (by omega)
  have e : Go.bits .xor .i64 (A : Int) (B : Int) = IntKind.i64.wrap ((BitVec.ofInt 64 (A : Int) ^^^ BitVec.ofInt 64 (B : Int)).toNat : Int) := rfl
  rw [e, BitVec.toNat_xor, ofInt_i64 A (by omega), ofInt_i64 B (by omega), IntKind.wrap_i64]
  omega
theorem tmod_range (a n : Int) (h : 0 ≤ a) (hn : 1 ≤ n) : 0 ≤ Int.tmod a n ∧ Int.tmod a n < n := by
  rw [Int.tmod_eq_emod_of_nonneg h]; exact ⟨Int.emod_nonneg _ (by omega), Int.emod_lt_of_pos _ (by omega)⟩
def Bytes (b : List Int) : Prop := b.length ≤ 2000 ∧ ∀ x ∈ b, 0 ≤ x ∧ x ≤ 255
theorem Bytes.at_ {b : List Int} (h : Bytes b) (i : Int) : 0 ≤ rd b i ∧ rd b i ≤ 255 := by
  unfold rd
  rw [List.getD_eq_getElem?_getD]
  cases e : b[i.toNat]? with
  | none => simp
  | some x => simpa using h.2 x (List.mem_of_getElem? e)
def LIMP : Int := 1099511627776
theorem pick_run {b : List Int} (hb : Bytes b) {p n : Int} (hp : 0 ≤ p) (hp2 : p < LIMP) : Run (fun k => spec_l20Rd_pick.f k b p n) (fun r => 0 ≤ r.1 ∧ (1 ≤ n → r.1 < n) ∧ (n < 1 → r.1 = 0) ∧ r.2 = p + 1) := by
  unfold LIMP at hp2
  have hl := hb.1
  have w1 : wrap64 (p + 1) = p + 1 := w64 (by omega) (by omega)
  have w2 : wrap64 (p + 1 - 1) = p := by rw [w64 (by omega) (by omega)]; omega
  unfold spec_l20Rd_pick.f
  by_cases hn : n < 1
  · refine Run.pos hn (Run.step (fun k => by rw [spec_l20Rd_pick.j0]) (Run.pos rfl (Run.ret ?_)))
    rw [w1]; exact ⟨by omega, by omega, fun _ => rfl, rfl⟩
  · refine Run.neg hn (Run.step (fun k => by rw [spec_l20Rd_pick.j0]) ?_)
    by_cases h0 : b.length = 0
    · refine Run.pos (by simp [h0]) (Run.ret ?_)
      rw [w1]; exact ⟨by omega, by omega, by omega, rfl⟩
    · refine Run.neg (by simp; intro h; simp [h] at h0) ?_
      rw [w1, w2]
      by_cases hlt : p < (b.length : Int)
      · refine Run.pos hlt (Run.pos hp (Run.neg (by omega) (Run.ret ?_)))
        obtain ⟨r0, r1⟩ := hb.at_ p
        rw [w64 (by omega) (by omega)]
        obtain ⟨m0, m1⟩ := tmod_range (rd b p) n r0 (by omega)
        exact ⟨m0, fun _ => m1, by omega, rfl⟩
      · have hL : (1 : Int) ≤ b.length := by omega
        have e7 : wrap64 (wrap64 (p * 7) + 3) = p * 7 + 3 := by rw [w64 (x := p * 7) (by omega) (by omega), w64 (by omega) (by omega)]
        rw [e7]
        obtain ⟨a0, a1⟩ := tmod_range p b.length hp hL
        obtain ⟨c0, c1⟩ := tmod_range (p * 7 + 3) b.length (by omega) hL
        refine Run.neg hlt (Run.neg (by omega) (Run.pos a0 (Run.pos a1 (Run.pos c0 (Run.pos c1 (Run.neg (by omega) (Run.ret ?_)))))))
        obtain ⟨x0, x1⟩ := hb.at_ (Int.tmod p b.length)
        obtain ⟨y0, y1⟩ := hb.at_ (Int.tmod (p * 7 + 3) b.length)
        have ed : Int.tdiv p (b.length : Int) = p / (b.length : Int) := Int.tdiv_eq_ediv_of_nonneg hp
        have d0 : 0 ≤ p / (b.length : Int) := Int.ediv_nonneg hp (by omega)
        have d1 : p / (b.length : Int) ≤ p := Int.ediv_le_self _ hp
        rw [ed]
        generalize p / (b.length : Int) = q at d0 d1 ⊢
        generalize rd b (Int.tmod p b.length) = x at x0 x1 ⊢
        generalize rd b (Int.tmod (p * 7 + 3) b.length) = y at y0 y1 ⊢
        have eX : wrap64 (wrap64 (wrap64 (wrap64 (wrap64 x * 131) + wrap64 (wrap64 y * 1117)) + wrap64 (p * 29)) + wrap64 (wrap64 q * 53)) = x * 131 + y * 1117 + p * 29 + q * 53 := by
          rw [w64 (x := x) (by omega) (by omega), w64 (x := y) (by omega) (by omega), w64 (x := q) (by omega) (by omega), w64 (x := x * 131) (by omega) (by omega), w64 (x := y * 1117) (by omega) (by omega), w64 (x := p * 29) (by omega) (by omega), w64 (x := q * 53) (by omega) (by omega), w64 (x := x * 131 + y * 1117) (by omega) (by omega), w64 (x := x * 131 + y * 1117 + p * 29) (by omega) (by omega), w64 (by omega) (by omega)]
        rw [eX]
        generalize hX : x * 131 + y * 1117 + p * 29 + q * 53 = X
        have X0 : 0 ≤ X := by omega
        have X1 : X < 4611686018427387904 := by omega
        have et : Int.tdiv X 64 = X / 64 := Int.tdiv_eq_ediv_of_nonneg X0
        rw [et, w64 (x := X / 64) (by omega) (by omega)]
        obtain ⟨m0, m1⟩ := tmod_range _ n (xor_i64 X (X / 64) X0 X1 (by omega) (by omega)) (by omega)
        exact ⟨m0, fun _ => m1, by omega, rfl⟩
theorem open_eq (l : List Int) (h : ∀ x ∈ l, (Lit.int .u8 x).wf = true) : ∃ b, spec_l20Open.f l = some (b, 0) ∧ Bytes b := by
  unfold spec_l20Open.f
  have hb : ∀ x ∈ l, 0 ≤ x ∧ x ≤ 255 := fun x hx => wfb (h x hx)
  by_cases hl : (l.length : Int) > 2000
  · refine ⟨_, by rw [if_pos hl, if_pos (by omega)], by simp; omega, fun x hx => hb x (List.mem_of_mem_take hx)⟩
  · exact ⟨_, by rw [if_neg hl], by omega, hb⟩
end Go.Proofs.Ytldmepofbkcmnaa.Pure
