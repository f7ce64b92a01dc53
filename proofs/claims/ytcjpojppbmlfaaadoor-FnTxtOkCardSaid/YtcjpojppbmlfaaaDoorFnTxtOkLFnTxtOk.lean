/- A part of what the claim of 'FnTxtOk' leans on. -/
import Derived.Test.YtcjpojppbmlfaaaDoorFnTxtOkPr0
import Derived.Test.YtcjpojppbmlfaaaDoorFnTxtOkPr10
import Derived.Test.YtcjpojppbmlfaaaDoorFnTxtOkPr31
import Derived.Test.YtcjpojppbmlfaaaDoorFnTxtOkQDrawTxt
set_option linter.unusedVariables false
set_option linter.unusedSimpArgs false
namespace Go.Proofs.YtcjpojppbmlfaaaDoor.Pure
open Go.RowKit Go.Proofs.YtcjpojppbmlfaaaDoor.Pr Go.Proofs.YtcjpojppbmlfaaaDoorW.PrintWords Go.Proofs.YtcjpojppbmlfaaaDoorW.PrintLast Go.Proofs.YtcjpojppbmlfaaaDoorW.PrintMore
theorem FnTxtOk (l : List Int) (h : l.length ≤ 9223372036854775807 ∧ ∀ x ∈ l, (Lit.int .u8 x).wf = true) : ∃ k, laws_FnTxtOk.f k l = some true := by
  apply Run.get
  unfold laws_FnTxtOk.f
  refine Run.ite (fun _ => Run.ret rfl) fun hbig => ?_
  have draw : Run (fun k => spec_DrawTxtOk.f k l) (fun s => s.size ≤ 100) := by
    unfold spec_DrawTxtOk.f
    obtain ⟨b, e, hb⟩ := open_eq l h.2
    refine Run.constBind e (Run.bind (anyText_run hb (show (0 : Int) ≤ 0 by omega) (by unfold LIMP; omega)) fun r hr => Run.ret hr.1)
  refine Run.bind draw fun s hs => ?_
  have hsz := bl_len s
  have loop : ∀ (d i : Nat) (ok p : Bool), i + d = (bl s).length → (i = 0 → p = true) → (∀ j, i = j + 1 → ∀ b, (bl s)[j]? = some b → (p = true ↔ b = 32)) → (d = 0 → ok = txtOk s) → (0 < d → (ok && okFrom p ((bl s).drop i)) = txtOk s) → Run (fun k => laws_FnTxtOk.l0 k s ok i) (· = true) := by
    intro d
    induction d with
    | zero =>
      intro i ok p hi _ _ hok _
      have io := implTxtOk s (by omega)
      have so := specTxtOk s (by omega)
      have ab := implTxtOk (⟨#[97, 32, 98]⟩ : ByteArray) (by show 3 < 4294967281; omega)
      have eab : txtOk (⟨#[97, 32, 98]⟩ : ByteArray) = true := by decide
      rw [eab] at ab
      rw [hok rfl]
      refine Run.step (fun k => by rw [laws_FnTxtOk.l0]) (Run.neg (by omega) (Run.evBind io ?_))
      refine Run.pos (beq_self_eq_true _) (Run.evBind io (Run.evBind so (Run.pos (beq_self_eq_true _) (Run.evBind ab (Run.ret rfl)))))
    | succ d ih =>
      intro i ok p hi h0 hprev _ hall
      have hall := hall (by omega)
      have hlt : i < (bl s).length := by omega
      have hx : (bl s)[i]? = some (bl s)[i] := by simp [hlt]
      rw [dropCons _ i hlt, okFrom] at hall
      have hb := bt_bl s i hlt
      have en := wnext (n := (bl s).length) (i := i) (by omega) (by omega)
      have el : wrap64 ((s.size : Int) - 1) = (s.size : Int) - 1 := w64 (by omega) (by omega)
      refine Run.step (fun k => by rw [laws_FnTxtOk.l0]) (Run.pos (by omega) (Run.pos (by omega) ?_))
      rw [hb, en, el]
      clear en el
      generalize hbe : (bl s)[i] = b at hx hb hall ⊢
      have hr := b.toNat_lt
      have hx' : ∀ q : Bool, (q = true ↔ b = 32) → ∀ j, i + 1 = j + 1 → ∀ b', (bl s)[j]? = some b' → (q = true ↔ b' = 32) := by
        intro q hq j hj b' hb'
        obtain rfl : j = i := by omega
        rw [hx] at hb'; cases hb'; exact hq
      have e32 := byte32 (b := b)
      have endD : d = 0 → (bl s).drop (i + 1) = [] := fun e => by rw [show i + 1 = (bl s).length by omega]; exact List.drop_length
      have bad : txtOk s = false → Run (fun k => laws_FnTxtOk.l0 k s false ((i + 1 : Nat) : Int)) (· = true) := fun e => by
        by_cases h32 : b = 32
        · exact ih (i + 1) false true (by omega) (by omega) (hx' true (by simp [h32])) (fun _ => e.symm) (fun _ => by rw [e]; rfl)
        · exact ih (i + 1) false false (by omega) (by omega) (hx' false (by simp [h32])) (fun _ => e.symm) (fun _ => by rw [e]; rfl)
      by_cases h32 : b = 32
      · have hv : (b.toNat : Int) = 32 := e32.mpr h32
        rw [if_pos h32] at hall
        refine Run.neg (by omega) (Run.ite (fun hok => ?_) (fun hok => bad ?_))
        · rw [hok] at hall
          refine Run.pos hv (Run.ite (fun hi0 => ?_) (fun hi0 => bad ?_))
          · refine Run.ite (fun hl => ?_) (fun hl => bad ?_)
            · obtain ⟨j, rfl⟩ : ∃ j, i = j + 1 := ⟨i - 1, by omega⟩
              have ej : wrap64 (((j + 1 : Nat) : Int) - 1) = (j : Int) := by rw [w64 (by omega) (by omega)]; omega
              have hp := hprev j rfl (bl s)[j] (by simp [show j < (bl s).length by omega])
              rw [ej, bt_bl s j (by omega)]
              refine Run.pos (by omega) (Run.pos (by omega) ?_)
              have enp : ((((bl s)[j].toNat : Int)) != 32) = !p := by
                cases hpp : p with
                | true => have e3 := hp.mp hpp; rw [e3]; rfl
                | false =>
                  have e3 : ¬ (bl s)[j] = 32 := fun e => by rw [hp.mpr e] at hpp; cases hpp
                  exact bne_iff_ne.mpr (fun e => e3 (byte32.mp e))
              rw [enp]
              exact ih (j + 1 + 1) (!p) true (by omega) (by omega) (hx' true (by simp [h32])) (fun e => by omega) (fun _ => by simpa using hall)
            · rw [endD (by omega)] at hall
              simpa [okFrom] using hall.symm
          · rw [h0 (by omega)] at hall
            simpa using hall.symm
        · have : ok = false := by simpa using hok
          rw [this] at hall; simpa using hall.symm
      · rw [if_neg h32] at hall
        have hv : ¬ (b.toNat : Int) = 32 := fun e => h32 (e32.mp e)
        have hle := letter_iff (b := b)
        have good : letter b = true → ok = true → Run (fun k => laws_FnTxtOk.l0 k s true ((i + 1 : Nat) : Int)) (· = true) := fun e1 e2 => by
          rw [e1, e2] at hall
          refine ih (i + 1) true false (by omega) (by omega) (hx' false (by simp [h32])) (fun e => ?_) (fun _ => by simpa using hall)
          rw [endD e] at hall
          simpa [okFrom] using hall
        have off : ¬ (letter b = true ∧ ok = true) → txtOk s = false := fun e => by
          rw [← hall]
          cases hl : letter b <;> cases ho : ok <;> simp
          exact absurd ⟨hl, ho⟩ e
        refine Run.ite (fun h97 => ?_) (fun h97 => ?_)
        · refine Run.ite (fun hok => ?_) (fun hok => bad (off (fun e => hok e.2)))
          refine Run.ite (fun h122 => good (hle.mpr ⟨by omega, h122⟩) hok) (fun h122 => Run.neg hv (bad (off fun e => h122 (hle.mp e.1).2)))
        · refine Run.ite (fun hok => ?_) (fun hok => bad (off (fun e => hok e.2)))
          exact Run.neg hv (bad (off fun e => h97 (hle.mp e.1).1))
  have hd : decide ((s.size : Int) ≤ 30) = decide ((bl s).length ≤ 30) := decide_eq_decide.mpr (by omega)
  rw [hd]
  refine loop (bl s).length 0 _ true (by omega) (fun _ => rfl) (fun j hj => by omega) (fun e => ?_) (fun e => ?_)
  · have : bl s = [] := List.length_eq_zero_iff.mp e
    unfold txtOk txtOkL
    rw [this]; rfl
  · rw [List.drop_zero, okFrom_words]
    unfold txtOk txtOkL
    have : (bl s).isEmpty = false := by
      cases hb : bl s with
      | nil => rw [hb] at e; simp at e
      | cons _ _ => rfl
    rw [this, Bool.false_or]
end Go.Proofs.YtcjpojppbmlfaaaDoor.Pure
