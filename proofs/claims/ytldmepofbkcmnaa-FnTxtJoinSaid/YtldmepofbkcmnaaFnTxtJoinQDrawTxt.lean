/- A part of what the claim of 'FnTxtJoin' leans on. -/
import Derived.Test.YtldmepofbkcmnaaFnTxtJoinPr0
import Derived.Test.YtldmepofbkcmnaaFnTxtJoinPr11
import Derived.Test.YtldmepofbkcmnaaFnTxtJoinPr8
import Derived.Test.YtldmepofbkcmnaaFnTxtJoinPr9
import Derived.Test.YtldmepofbkcmnaaFnTxtJoinQDraw
import Derived.Test.YtldmepofbkcmnaaFnTxtJoinQBl
set_option linter.unusedVariables false
set_option linter.unusedSimpArgs false
namespace Go.Proofs.Ytldmepofbkcmnaa.Pure
open Go.RowKit Go.Proofs.Ytldmepofbkcmnaa.Pr Go.Proofs.YtldmepofbkcmnaaW.PrintWords Go.Proofs.YtldmepofbkcmnaaW.PrintLast Go.Proofs.YtldmepofbkcmnaaW.PrintMore
theorem wordSize (t : Int) (h0 : 0 ≤ t) (h : t < 7) : (rdOf ByteArray.empty (([(⟨#[97]⟩ : ByteArray), (⟨#[97, 110]⟩ : ByteArray), (⟨#[116, 104, 101]⟩ : ByteArray), (⟨#[111, 118, 101, 114]⟩ : ByteArray), (⟨#[117, 110, 100, 101, 114]⟩ : ByteArray), (⟨#[109, 101, 97, 100, 111, 119]⟩ : ByteArray), (⟨#[108, 105, 103, 104, 116, 104, 111, 117, 115, 101]⟩ : ByteArray)] : List ByteArray)) t).size ≤ 10 := by
  have : t = 0 ∨ t = 1 ∨ t = 2 ∨ t = 3 ∨ t = 4 ∨ t = 5 ∨ t = 6 := by omega
  rcases this with e | e | e | e | e | e | e <;> rw [e] <;> decide
theorem badSize (t : Int) (h0 : 0 ≤ t) (h : t < 7) : (rdOf ByteArray.empty (([(⟨#[32]⟩ : ByteArray), (⟨#[32, 32]⟩ : ByteArray), (⟨#[65]⟩ : ByteArray), (⟨#[49]⟩ : ByteArray), (⟨#[45]⟩ : ByteArray), (⟨#[0]⟩ : ByteArray), (⟨#[97, 98, 99, 100, 101, 102, 103, 104, 105, 106, 97, 98, 99, 100, 101, 102, 103, 104, 105, 106, 97, 98, 99, 100, 101, 102, 103, 104, 105, 106, 120]⟩ : ByteArray)] : List ByteArray)) t).size ≤ 31 := by
  have : t = 0 ∨ t = 1 ∨ t = 2 ∨ t = 3 ∨ t = 4 ∨ t = 5 ∨ t = 6 := by omega
  rcases this with e | e | e | e | e | e | e <;> rw [e] <;> decide
theorem text_run {b : List Int} (hb : Bytes b) {p : Int} (hp : 0 ≤ p) (hp2 : p + 8 < LIMP) : Run (fun k => spec_l20Text.f k b p) (fun r => r.1.size ≤ 30 ∧ p ≤ r.2 ∧ r.2 ≤ p + 6) := by
  unfold spec_l20Text.f
  refine Run.bind (pick_run hb (n := 6) hp (by omega)) fun r0 h0 => ?_
  obtain ⟨a0, a1, _, a2⟩ := h0
  generalize hW : (([(⟨#[97]⟩ : ByteArray), (⟨#[97, 110]⟩ : ByteArray), (⟨#[116, 104, 101]⟩ : ByteArray), (⟨#[111, 118, 101, 114]⟩ : ByteArray), (⟨#[117, 110, 100, 101, 114]⟩ : ByteArray), (⟨#[109, 101, 97, 100, 111, 119]⟩ : ByteArray), (⟨#[108, 105, 103, 104, 116, 104, 111, 117, 115, 101]⟩ : ByteArray)] : List ByteArray)) = W
  have hWl : W.length = 7 := by rw [← hW]; rfl
  have hWs : ∀ t : Int, 0 ≤ t → t < 7 → (rdOf ByteArray.empty W t).size ≤ 10 := by rw [← hW]; exact wordSize
  clear hW
  have loop : ∀ (d : Nat) (s : ByteArray) (q : Int), d ≤ 5 → s.size ≤ 30 → 0 ≤ q → q + (d : Int) ≤ p + 6 → p ≤ q → Run (fun k => spec_l20Text.l0 k W s (d : Int) b q) (fun r => r.1.size ≤ 30 ∧ p ≤ r.2 ∧ r.2 ≤ p + 6) := by
    intro d
    induction d with
    | zero =>
      intro s q _ hs hq hq2 hpq
      refine Run.step (fun k => by rw [spec_l20Text.l0]) (Run.neg (by omega) (Run.ret ?_))
      exact ⟨hs, by show p ≤ q; omega, by show q ≤ p + 6; omega⟩
    | succ d ih =>
      intro s q hd hs hq hq2 hpq
      have e1 : wrap64 (((d + 1 : Nat) : Int) - 1) = (d : Int) := by rw [w64 (by omega) (by omega)]; omega
      refine Run.step (fun k => by rw [spec_l20Text.l0]) (Run.pos (by omega) (Run.bind (pick_run hb (n := (W.length : Int)) hq (by omega)) fun r1 h1 => ?_))
      obtain ⟨b0, b1, _, b2⟩ := h1
      have b3 := b1 (by omega)
      have hw := hWs r1.1 b0 (by omega)
      rw [e1]
      refine Run.pos b0 (Run.pos b3 ?_)
      clear e1
      generalize rdOf ByteArray.empty W r1.1 = v at hw ⊢
      have go : ∀ u : ByteArray, u.size ≤ 30 → Run (fun k => spec_l20Text.l0 k W u (d : Int) b r1.2) (fun r => r.1.size ≤ 30 ∧ p ≤ r.2 ∧ r.2 ≤ p + 6) := fun u hu => ih u r1.2 (by omega) hu (by omega) (by omega) (by omega)
      refine Run.ite (fun _ => go v (by omega)) (fun _ => ?_)
      have e2 : wrap64 (wrap64 ((s.size : Int) + 1) + (v.size : Int)) = (s.size : Int) + 1 + (v.size : Int) := by rw [w64 (x := (s.size : Int) + 1) (by omega) (by omega), w64 (by omega) (by omega)]
      rw [e2]
      clear e2
      have e3 : (s ++ (⟨#[32]⟩ : ByteArray)).size = s.size + 1 := by rw [ByteArray.size_append]; rfl
      refine Run.ite (fun hle => ?_) (fun _ => go s hs)
      refine Run.pos (by omega) (Run.pos (by rw [e3]; omega) (go _ ?_))
      rw [ByteArray.size_append, e3]; omega
  obtain ⟨t, q⟩ := r0
  obtain ⟨n, rfl⟩ : ∃ n : Nat, t = (n : Int) := ⟨t.toNat, by have a0' : 0 ≤ t := a0; omega⟩
  have a1' : (n : Int) < 6 := a1 (by omega)
  have a2' : q = p + 1 := a2
  exact loop n _ q (by omega) (by show 0 ≤ 30; omega) (by omega) (by omega) (by omega)
theorem anyText_run {b : List Int} (hb : Bytes b) {p n : Int} (hp : 0 ≤ p) (hp2 : p + 16 < LIMP) : Run (fun k => spec_l20AnyText.f k b p n) (fun r => r.1.size ≤ 100 ∧ p ≤ r.2 ∧ r.2 ≤ p + 10) := by
  unfold spec_l20AnyText.f
  refine Run.bind (text_run hb hp (by omega)) fun r0 h0 => ?_
  obtain ⟨s, q⟩ := r0
  have s1 : s.size ≤ 30 := h0.1
  have s2 : p ≤ q := h0.2.1
  have s3 : q ≤ p + 6 := h0.2.2
  refine Run.bind (pick_run hb (n := n) (show 0 ≤ q by omega) (by omega)) fun r1 h1 => ?_
  obtain ⟨_, _, _, a2⟩ := h1
  have a2' : r1.2 = q + 1 := a2
  refine Run.ite (fun _ => Run.ret ⟨by show s.size ≤ 100; omega, by show p ≤ r1.2; omega, by show r1.2 ≤ p + 10; omega⟩) (fun _ => ?_)
  have e1 : wrap64 ((s.size : Int) + 1) = (s.size : Int) + 1 := w64 (by omega) (by omega)
  show Run (fun k => (spec_l20Rd_pick.f k b r1.2 (wrap64 ((s.size : Int) + 1))).bind _) _
  rw [e1]
  refine Run.bind (pick_run hb (n := (s.size : Int) + 1) (show 0 ≤ r1.2 by omega) (by omega)) fun r2 h2 => ?_
  obtain ⟨b0, b1, _, b2⟩ := h2
  have b3 := b1 (by omega)
  refine Run.pos b0 (Run.pos (by show r2.1 ≤ (s.size : Int); omega) (Run.some (Run.bind (pick_run hb (n := 7) (show 0 ≤ r2.2 by omega) (by omega)) fun r3 h3 => ?_)))
  obtain ⟨c0, c1, _, c2⟩ := h3
  have c3 := c1 (by omega)
  have hz := badSize r3.1 c0 c3
  refine Run.pos c0 (Run.pos (by show r3.1 < 7; omega) ?_)
  have z1 : (s.extract 0 (r2.1 : Int).toNat).size ≤ 30 := by rw [ByteArray.size_extract]; omega
  have z2 : (s.extract (r2.1 : Int).toNat s.size).size ≤ 30 := by rw [ByteArray.size_extract]; omega
  refine Run.pos (by show (s.extract 0 (r2.1 : Int).toNat).size + _ ≤ _; omega) (Run.pos (by rw [ByteArray.size_append]; show (s.extract 0 (r2.1 : Int).toNat).size + _ + (s.extract (r2.1 : Int).toNat s.size).size ≤ _; omega) (Run.ret ?_))
  refine ⟨?_, by show p ≤ r3.2; omega, by show r3.2 ≤ p + 10; omega⟩
  show (ByteArray.size _) ≤ 100
  rw [ByteArray.size_append, ByteArray.size_append]
  show (s.extract 0 (r2.1 : Int).toNat).size + _ + (s.extract (r2.1 : Int).toNat s.size).size ≤ _
  omega
end Go.Proofs.Ytldmepofbkcmnaa.Pure
