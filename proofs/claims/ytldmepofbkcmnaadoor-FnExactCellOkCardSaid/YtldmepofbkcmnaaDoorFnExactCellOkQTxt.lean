/- A part of what the claim of 'FnExactCellOk' leans on. -/
import Derived.Test.YtldmepofbkcmnaaDoorFnExactCellOkPr0
import Derived.Test.YtldmepofbkcmnaaDoorFnExactCellOkPr25
import Derived.Test.YtldmepofbkcmnaaDoorFnExactCellOkPr26
import Derived.Test.YtldmepofbkcmnaaDoorFnExactCellOkPr37
import Derived.Test.YtldmepofbkcmnaaDoorFnExactCellOkPr40
import Derived.Test.YtldmepofbkcmnaaDoorFnExactCellOkQBl
import Derived.Test.YtldmepofbkcmnaaDoorFnExactCellOkQk
set_option linter.unusedVariables false
set_option linter.unusedSimpArgs false
namespace Go.Proofs.YtldmepofbkcmnaaDoor.Pure
open Go.RowKit Go.Proofs.YtldmepofbkcmnaaDoor.Pr Go.Proofs.YtldmepofbkcmnaaDoorW.PrintWords Go.Proofs.YtldmepofbkcmnaaDoorW.PrintLast Go.Proofs.YtldmepofbkcmnaaDoorW.PrintMore
theorem byte32 {b : UInt8} : ((b.toNat : Int) = 32) ↔ b = 32 := by
  constructor
  · intro h
    have : b.toNat = 32 := by omega
    exact UInt8.toNat_inj.mp (by rw [this]; rfl)
  · rintro rfl; rfl
theorem cutL_le : ∀ (l w : List UInt8), w ∈ cutL l → w.length ≤ l.length := by
  intro l
  induction l with
  | nil => intro w h; simp [cutL] at h; subst h; simp
  | cons b l ih =>
    intro w h
    by_cases hb : b = 32
    · subst hb
      rw [cutL_blank] at h
      rcases List.mem_cons.mp h with rfl | h
      · simp
      · have := ih w h; simp; omega
    · obtain ⟨v, vs, e⟩ := cutL_ne l
      rw [cutL_other hb e] at h
      rcases List.mem_cons.mp h with rfl | h
      · have := ih v (by rw [e]; simp); simp; omega
      · have := ih w (by rw [e]; simp [h]); simp; omega
theorem cutB_le (s w : ByteArray) (h : w ∈ cutB s) : w.size ≤ s.size := by
  obtain ⟨l, hl, rfl⟩ := List.mem_map.mp h
  rw [bl_len, bl_len, bl_mk]
  exact cutL_le _ _ hl
def goodB (w : ByteArray) : Bool := goodW (bl w)
theorem cutB_good (s : ByteArray) : (cutB s).all goodB = (cutL (bl s)).all goodW := by
  unfold cutB
  rw [List.all_map]; rfl
def txtOk (s : ByteArray) : Bool := txtOkL (bl s)
theorem trim_ok (w : ByteArray) (h : w.size ≤ 9223372036854775807) : strings_Trim.f w (⟨#[97, 98, 99, 100, 101, 102, 103, 104, 105, 106, 107, 108, 109, 110, 111, 112, 113, 114, 115, 116, 117, 118, 119, 120, 121, 122]⟩ : ByteArray) = some ⟨(Go.Lib.trimS (bl w) letters26).toArray⟩ := by
  unfold strings_Trim.f
  rw [if_pos ⟨rfl, h⟩]; rfl
theorem implTxtOk (s : ByteArray) (h : s.size < 4294967281) : Ev (fun k => impl_TxtOk.f k s) (txtOk s) := by
  unfold impl_TxtOk.f txtOk txtOkL
  by_cases h0 : bl s = []
  · refine evIf ((toList_nil s).mpr h0) (evNow ?_)
    rw [h0]; rfl
  · refine evElse (fun e => h0 ((toList_nil s).mp e)) ?_
    refine evBindC (show strings_Split.f s (⟨#[32]⟩ : ByteArray) = some (cutB s) by unfold strings_Split.f; rw [if_pos ⟨rfl, h⟩]) ?_
    have hn : (cutB s).length ≤ s.size + 1 := by
      have := List.count_le_length (a := (32 : UInt8)) (l := bl s)
      rw [show (cutB s).length = (bl s).count 32 + 1 by rw [cutB, List.length_map, cutL_length]; rfl, bl_len]; omega
    have loop : ∀ (d i : Nat), i + d = (cutB s).length → Ev (fun k => impl_TxtOk.l0 k s (cutB s) ((cutB s).length : Int) i) (((cutB s).drop i).all goodB && decide ((s.size : Int) ≤ 30)) := by
      intro d
      induction d with
      | zero =>
        intro i hi
        obtain rfl : i = (cutB s).length := by omega
        rw [List.drop_length]
        refine Ev.step (fun k => by rw [impl_TxtOk.l0]) ?_
        exact evElse (by omega) (evNow (by simp))
      | succ d ih =>
        intro i hi
        have hlt : i < (cutB s).length := by omega
        have hw : (cutB s)[i].size ≤ s.size := cutB_le s _ (List.getElem_mem _)
        rw [dropCons _ i hlt, List.all_cons]
        refine Ev.step (fun k => by rw [impl_TxtOk.l0]) (evIf (by omega) (evIf (by omega) (evIf (by omega) ?_)))
        rw [rdS _ i hlt]
        generalize (cutB s)[i] = w at hw ⊢
        by_cases he : bl w = []
        · refine evIf ((toList_nil w).mpr he) (evNow ?_)
          simp [goodB, goodW, he]
        · refine evElse (fun e => he ((toList_nil w).mp e)) (evBindC (trim_ok w (by omega)) ?_)
          have ht := trim_empty (bl w)
          have he' : (bl w).isEmpty = false := by simpa using he
          have hg : goodB w = (bl w).all letter := by simp [goodB, goodW, he']
          rw [hg, ← ht]
          cases hc : (Go.Lib.trimS (bl w) letters26).isEmpty with
          | true =>
            refine evIf ((toList_nil _).mpr (by rw [bl_mk]; simpa using hc)) ?_
            rw [wnext (n := (cutB s).length) (by omega) (by omega)]
            simpa using ih (i + 1) (by omega)
          | false =>
            refine evElse (fun e => ?_) (evNow (by simp))
            have := (toList_nil _).mp e
            rw [bl_mk] at this
            rw [this] at hc; simp at hc
    have := loop (cutB s).length 0 (by omega)
    rw [List.drop_zero, cutB_good] at this
    have he : (bl s).isEmpty = false := by simpa using h0
    have hd : decide ((s.size : Int) ≤ 30) = decide ((bl s).length ≤ 30) := by rw [← bl_len]; exact decide_eq_decide.mpr (by omega)
    rw [he, Bool.false_or, Bool.and_comm, ← hd]
    exact this
theorem specTxtOk (s : ByteArray) (h : s.size ≤ 9223372036854775807) : Ev (fun k => spec_TxtOk.f k s) (txtOk s) := by
  unfold spec_TxtOk.f txtOk txtOkL
  have hsz := bl_len s
  by_cases h30 : (s.size : Int) > 30
  · refine evIf h30 (evNow ?_)
    have h1 : (bl s).isEmpty = false := by
      cases hb : bl s with
      | nil => rw [hsz, hb] at h30; simp at h30
      | cons _ _ => rfl
    have h2 : decide ((bl s).length ≤ 30) = false := decide_eq_false (by omega)
    rw [h1, h2]; rfl
  · refine evElse h30 ?_
    have hd : decide ((bl s).length ≤ 30) = true := decide_eq_true (by omega)
    have loop : ∀ (d i : Nat) (p : Bool), i + d = (bl s).length → (i = 0 → p = true) → (∀ j, i = j + 1 → ∀ b, (bl s)[j]? = some b → (p = true ↔ b = 32)) → (d = 0 → p = false) → Ev (fun k => spec_TxtOk.l0 k s i) (okFrom p ((bl s).drop i)) := by
      intro d
      induction d with
      | zero =>
        intro i p hi _ _ hp
        rw [hp rfl, show i = (bl s).length by omega, List.drop_length]
        refine Ev.step (fun k => by rw [spec_TxtOk.l0]) ?_
        exact evElse (by omega) (evNow rfl)
      | succ d ih =>
        intro i p hi h0 hprev _
        have hlt : i < (bl s).length := by omega
        have hx : (bl s)[i]? = some (bl s)[i] := by simp [hlt]
        rw [dropCons _ i hlt, okFrom]
        refine Ev.step (fun k => by rw [spec_TxtOk.l0]) (evIf (by omega) (evIf (by omega) ?_))
        have hb := bt_bl s i hlt
        rw [hb]
        have bad : Ev (fun k => spec_TxtOk.j1 k s i true) false := by
          refine Ev.step (fun k => by rw [spec_TxtOk.j1]) ?_
          exact evIf rfl (evNow rfl)
        generalize hbe : (bl s)[i] = b at hx hb ⊢
        have en := wnext (n := (bl s).length) (i := i) (by omega) (by omega)
        have hx' : ∀ q : Bool, (q = true ↔ b = 32) → ∀ j, i + 1 = j + 1 → ∀ b', (bl s)[j]? = some b' → (q = true ↔ b' = 32) := by
          intro q hq j hj b' hb'
          obtain rfl : j = i := by omega
          rw [hx] at hb'; cases hb'; exact hq
        by_cases h32 : b = 32
        · subst h32
          rw [if_pos rfl]
          have good : i + 1 < (bl s).length → Ev (fun k => spec_TxtOk.j1 k s i false) (okFrom true ((bl s).drop (i + 1))) := by
            intro hlt2
            refine Ev.step (fun k => by rw [spec_TxtOk.j1]) ?_
            refine evElse (by simp) (evIf (by omega) (evIf (by omega) ?_))
            rw [hb]
            refine evIf (by rfl) ?_
            rw [en]
            exact ih (i + 1) true (by omega) (by omega) (hx' true (by simp)) (by omega)
          refine evIf (by rfl) ?_
          by_cases hi0 : i = 0
          · refine evIf (by omega) ?_
            rw [h0 hi0]
            exact bad
          · refine evElse (by omega) ?_
            have el : wrap64 ((s.size : Int) - 1) = (s.size : Int) - 1 := w64 (by omega) (by omega)
            rw [el]
            by_cases hl : i + 1 = (bl s).length
            · refine evIf (by omega) ?_
              have e2 : (bl s).drop (i + 1) = [] := by rw [hl]; exact List.drop_length
              rw [e2]
              have : (!p && okFrom true []) = false := by simp [okFrom]
              rw [this]
              exact bad
            · refine evElse (by omega) ?_
              obtain ⟨j, rfl⟩ : ∃ j, i = j + 1 := ⟨i - 1, by omega⟩
              have ej : wrap64 (((j + 1 : Nat) : Int) - 1) = (j : Int) := by rw [w64 (by omega) (by omega)]; omega
              rw [ej]
              refine evIf (by omega) (evIf (by omega) ?_)
              have hp := hprev j rfl (bl s)[j] (by simp [show j < (bl s).length by omega])
              rw [bt_bl s j (by omega)]
              cases hpp : p with
              | true =>
                have e3 : (bl s)[j] = 32 := hp.mp hpp
                rw [e3]
                exact bad
              | false =>
                have e3 : ¬ (bl s)[j] = 32 := fun e => by rw [hp.mpr e] at hpp; cases hpp
                have e4 : (((bl s)[j].toNat : Int) == 32) = false := beq_eq_false_iff_ne.mpr (fun e => e3 (byte32.mp e))
                rw [e4]
                simpa using good (by omega)
        · rw [if_neg h32]
          refine evElse (fun e => h32 (byte32.mp e)) ?_
          refine Ev.step (fun k => by rw [spec_TxtOk.j1]) ?_
          refine evElse (by simp) (evIf (by omega) (evIf (by omega) ?_))
          rw [hb]
          refine evElse (fun e => h32 (byte32.mp e)) ?_
          have hr := b.toNat_lt
          rw [w64 (x := (b.toNat : Int)) (by omega) (by omega)]
          refine evBindC (l1In_eq _ _ _) ?_
          have hle : (decide (97 ≤ (b.toNat : Int)) && decide ((b.toNat : Int) ≤ 122)) = letter b := by unfold letter; congr 1 <;> simp <;> omega
          rw [hle]
          cases hll : letter b with
          | false => exact evElse (by simp) (evNow (by simp))
          | true =>
            refine evIf rfl ?_
            rw [en]
            simpa using ih (i + 1) false (by omega) (by omega) (hx' false (by simp [h32])) (fun _ => rfl)
    by_cases h0 : bl s = []
    · rw [h0]
      refine Ev.step (fun k => by rw [spec_TxtOk.l0]) ?_
      have : s.size = 0 := by rw [hsz, h0]; rfl
      exact evElse (by omega) (evNow rfl)
    · have h1 : (bl s).isEmpty = false := by simpa using h0
      have hp : 0 < (bl s).length := List.length_pos_iff.mpr h0
      have := loop (bl s).length 0 true (by omega) (fun _ => rfl) (fun j hj => by omega) (by omega)
      rw [List.drop_zero, okFrom_words] at this
      rw [h1, hd, Bool.false_or, Bool.true_and]
      exact this
end Go.Proofs.YtldmepofbkcmnaaDoor.Pure
