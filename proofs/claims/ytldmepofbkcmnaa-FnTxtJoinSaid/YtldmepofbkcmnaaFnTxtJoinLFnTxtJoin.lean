/- A part of what the claim of 'FnTxtJoin' leans on. -/
import Derived.Test.YtldmepofbkcmnaaFnTxtJoinPr0
import Derived.Test.YtldmepofbkcmnaaFnTxtJoinPr3
import Derived.Test.YtldmepofbkcmnaaFnTxtJoinPr4
import Derived.Test.YtldmepofbkcmnaaFnTxtJoinPr5
import Derived.Test.YtldmepofbkcmnaaFnTxtJoinQJoinI
import Derived.Test.YtldmepofbkcmnaaFnTxtJoinQJoin
import Derived.Test.YtldmepofbkcmnaaFnTxtJoinQDrawTxt
set_option linter.unusedVariables false
set_option linter.unusedSimpArgs false
namespace Go.Proofs.Ytldmepofbkcmnaa.Pure
open Go.RowKit Go.Proofs.Ytldmepofbkcmnaa.Pr Go.Proofs.YtldmepofbkcmnaaW.PrintWords Go.Proofs.YtldmepofbkcmnaaW.PrintLast Go.Proofs.YtldmepofbkcmnaaW.PrintMore
theorem drawJoin (l : List Int) (h : ∀ x ∈ l, (Lit.int .u8 x).wf = true) : Run (fun k => spec_DrawTxtJoin.f k l) (fun r => r.length ≤ 4 ∧ ∀ s ∈ r, s.size ≤ 100) := by
  unfold spec_DrawTxtJoin.f
  obtain ⟨b, e, hb⟩ := open_eq l h
  have hL : (1000 : Int) < LIMP := by unfold LIMP; omega
  refine Run.constBind e ?_
  refine Run.bind (pick_run hb (p := 0) (n := 5) (by omega) (by omega)) fun a ha => ?_
  obtain ⟨a1, a2, a3, a4⟩ := ha
  have a5 := a2 (by omega)
  obtain ⟨t, q⟩ := a
  obtain ⟨n, rfl⟩ : ∃ n : Nat, t = (n : Int) := ⟨t.toNat, by have : 0 ≤ t := a1; omega⟩
  have a5 : (n : Int) < 5 := a5
  have a4 : q = 0 + 1 := a4
  have loop : ∀ (d : Nat) (o : List ByteArray) (p : Int), o.length + d ≤ 4 → (∀ s ∈ o, s.size ≤ 100) → 0 ≤ p → p + 10 * d ≤ 900 → Run (fun k => spec_DrawTxtJoin.l0 k o d b p) (fun r => r.length ≤ 4 ∧ ∀ s ∈ r, s.size ≤ 100) := by
    intro d
    induction d with
    | zero =>
      intro o p ho hs hp hp2
      refine Run.step (fun k => by rw [spec_DrawTxtJoin.l0]) (Run.neg (by omega) (Run.ret ⟨by omega, hs⟩))
    | succ d ih =>
      intro o p ho hs hp hp2
      refine Run.step (fun k => by rw [spec_DrawTxtJoin.l0]) (Run.pos (by omega) (Run.bind (anyText_run hb (p := p) (n := 8) hp (by omega)) fun s hs2 => ?_))
      obtain ⟨s1, s2, s3⟩ := hs2
      refine Run.pos (by omega) ?_
      have e1 : wrap64 (((d + 1 : Nat) : Int) - 1) = (d : Int) := by rw [w64 (by omega) (by omega)]; omega
      rw [e1]
      clear e1
      refine ih (o ++ [s.1]) s.2 (by simp; omega) ?_ (by omega) (by omega)
      intro x hx
      rcases List.mem_append.mp hx with hx | hx
      · exact hs x hx
      · simp at hx; subst hx; exact s1
  exact loop n [] q (by simp; omega) (fun s hs => by cases hs) (by omega) (by omega)
theorem joinL_take_size (l : List ByteArray) (i : Nat) (h : i < l.length) : ((joinL ((l.take (i + 1)).map bl)).length : Int) = (joinL ((l.take i).map bl)).length + l[i].size + (if 0 < i then 1 else 0) := by
  have e : (l.take (i + 1)).map bl = (l.take i).map bl ++ [bl l[i]] := by
    rw [List.take_add_one, List.getElem?_eq_getElem h, List.map_append]; rfl
  have hv := bl_len l[i]
  rw [e]
  by_cases h0 : i = 0
  · subst h0
    simp [joinL]; omega
  · rw [joinL_len _ _ (by simp; exact ⟨h0, fun e => by rw [e] at h; simp at h⟩), if_pos (by omega)]
    omega
theorem joinL_small : ∀ (l : List ByteArray) , (∀ s ∈ l, s.size ≤ 100) → (joinL (l.map bl)).length ≤ l.length * 101
  | [], _ => by simp [joinL]
  | v :: vs, h => by
    have ih := joinL_small vs (fun x hx => h x (by simp [hx]))
    have hv := bl_len v
    have h1 := h v (by simp)
    rw [List.map_cons, List.length_cons, Nat.succ_mul]
    by_cases e : vs = []
    · subst e; show (bl v).length ≤ _; omega
    · rw [joinL_cons _ (by simpa using e), List.length_append, List.length_cons]; omega
theorem FnTxtJoin (l : List Int) (h : l.length ≤ 9223372036854775807 ∧ ∀ x ∈ l, (Lit.int .u8 x).wf = true) : ∃ k, laws_FnTxtJoin.f k l = some true := by
  apply Run.get
  unfold laws_FnTxtJoin.f
  refine Run.ite (fun _ => Run.ret rfl) fun hbig => ?_
  refine Run.bind (drawJoin l h.2) fun x hx => ?_
  obtain ⟨x1, x2⟩ := hx
  have hj := joinL_small x x2
  refine Run.constBind (implJoin x (by omega) (by omega)) (Run.evBind (specJoin x (by omega) (by omega)) (Run.pos rfl ?_))
  have hsz := joinB_size x
  have fin : Run (fun k => (impl_TxtJoin.f (([(⟨#[97]⟩ : ByteArray), (⟨#[98]⟩ : ByteArray)] : List ByteArray))).bind fun t => (some (t.toList == ([97, 32, 98] : List UInt8)))) (· = true) := by
    refine Run.constBind (implJoin _ (by decide) (by decide)) (Run.ret ?_)
    decide +kernel
  have loop : ∀ (d i : Nat), i + d = x.length → Run (fun k => laws_FnTxtJoin.l0 k x (joinB x) ((joinL ((x.take i).map bl)).length : Int) i) (· = true) := by
    intro d
    induction d with
    | zero =>
      intro i hi
      refine Run.step (fun k => by rw [laws_FnTxtJoin.l0]) (Run.neg (by omega) (Run.pos ?_ fin))
      rw [show i = x.length by omega, List.take_length, hsz]
    | succ d ih =>
      intro i hi
      have hlt : i < x.length := by omega
      have hi1 : (i : Int) < (x.length : Int) := by omega
      have hi0 : (0 : Int) ≤ (i : Int) := by omega
      have ih' := ih (i + 1) (by omega)
      have hz := x2 _ (List.getElem_mem hlt)
      have hb := joinL_small (x.take i) (fun s hs => x2 s (List.mem_of_mem_take hs))
      have hbl : (x.take i).length ≤ 4 := by simp; omega
      rw [joinL_take_size x i hlt] at ih'
      refine Run.step (fun k => by rw [laws_FnTxtJoin.l0]) (Run.pos hi1 (Run.pos hi0 ?_))
      rw [rdS x i hlt, w64 (x := ((joinL ((x.take i).map bl)).length : Int) + (x[i].size : Int)) (by omega) (by omega), w64 (x := ((joinL ((x.take i).map bl)).length : Int) + (x[i].size : Int) + 1) (by omega) (by omega), wnext (n := x.length) (i := i) (by omega) (by omega)]
      refine Run.ite (fun hp => ?_) (fun hp => ?_)
      · rw [if_pos (by omega)] at ih'; exact ih'
      · rw [if_neg (by omega), Int.add_zero] at ih'; exact ih'
  exact loop x.length 0 (by omega)
end Go.Proofs.Ytldmepofbkcmnaa.Pure
