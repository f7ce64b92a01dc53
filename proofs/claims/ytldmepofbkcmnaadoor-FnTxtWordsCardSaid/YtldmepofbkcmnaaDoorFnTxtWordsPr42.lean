/- A part of what the claim of 'FnTxtWords' leans on. -/
import Derived.Test.YtldmepofbkcmnaaDoorFnTxtWordsPr0
import Derived.Test.YtldmepofbkcmnaaDoorFnTxtWordsShelf
import Derived.Test.YtldmepofbkcmnaaDoorFnTxtWordsQCut
namespace Go.Proofs.YtldmepofbkcmnaaDoor.Pr
open Go.RowKit Go.Proofs.YtldmepofbkcmnaaDoorW.PrintWords Go.Proofs.YtldmepofbkcmnaaDoorW.PrintLast Go.Proofs.YtldmepofbkcmnaaDoorW.PrintMore
attribute [local go_sem] max2_int min2_int max_two min_two max_three min_three max_four min_four
set_option linter.unusedVariables false
set_option linter.unusedSimpArgs false
def joinP (l : List ByteArray) : ByteArray := ⟨(Go.Lib.join (l.map (·.data.toList)) [32]).toArray⟩
def strings_Join.f (a0 : List ByteArray) (a1 : ByteArray) : Option ByteArray := if a1.data.toList = [32] ∧ a0.length ≤ 100000000000 ∧ (Go.Lib.join (a0.map (·.data.toList)) [32]).length ≤ 100000000000 then some (joinP a0) else none
theorem strings_Join.calls (A0 : Option Addr) (c0 : Nat) (l0 : List ByteArray) (a1 : ByteArray) (r : ByteArray) (w : World) (hr0 : Kd.C Kd.string w A0 l0.length l0) (hc0 : l0.length ≤ c0) (h : strings_Join.f l0 a1 = some r) :
    Calls Tryd.prog 42 #[.slice A0 l0.length c0, .string a1] w fun e w' => e = .returned (.string r) ∧ Below w.heap.size w w' := by
  unfold strings_Join.f at h
  by_cases c : a1.data.toList = [32] ∧ l0.length ≤ 100000000000 ∧ (Go.Lib.join (l0.map (·.data.toList)) [32]).length ≤ 100000000000
  case neg => rw [if_neg c] at h; cases h
  rw [if_pos c] at h
  obtain rfl := Option.some.inj h
  obtain ⟨c1, c2, c3⟩ := c
  cases l0 with
  | nil =>
    refine (Any.strings_Join_none Tryd.lays156 Tryd.Builder_Extra_156 A0 c0 a1 w).mono ?_
    rintro e w' ⟨rfl, rfl⟩
    exact ⟨rfl, Below.refl _ _⟩
  | cons x xs =>
    obtain ⟨ad, rfl, hx⟩ := Kd.at_string hr0 0 (by omega) (by simp)
    obtain ⟨bk, o, sp⟩ := ad
    have hsp : sp = none := by
      cases sp with
      | none => rfl
      | some q =>
        simp only [Addr.add, Int.toNat_zero, if_true, World.cell?] at hx
        split at hx <;> simp at hx
    subst hsp
    have hcells : ∀ (j : Nat) y, (x :: xs)[j]? = some y → w.cell? ⟨bk, o + j, none⟩ = some (.string y) := by
      intro j y hy
      have hj : j < (x :: xs).length := (List.getElem?_eq_some_iff.mp hy).1
      obtain ⟨ad2, e2, h2⟩ := Kd.at_string hr0 j (by omega) (by omega)
      cases e2
      rw [Int.toNat_natCast] at h2
      have e3 : rdOf ByteArray.empty (x :: xs) (j : Int) = y := by
        unfold rdOf
        rw [Int.toNat_natCast, List.getD_eq_getElem?_getD, hy]; rfl
      have e4 : (⟨bk, o, none⟩ : Addr).add j = ⟨bk, o + j, none⟩ := by
        unfold Addr.add
        by_cases e : j = 0
        · subst e; rfl
        · rw [if_neg e]
      rwa [e3, e4] at h2
    have hbk : bk < w.heap.size := World.block_lt_of_cell? w _ (hcells 0 x rfl)
    refine (Any.strings_Join Tryd.lays156 Tryd.Builder_Extra_156 bk o c0 (x :: xs) a1 w hcells hbk (by omega) hc0 (by rw [c1]; omega)).mono ?_
    rintro e w' ⟨rfl, hb⟩
    exact ⟨by unfold joinP; rw [c1], hb⟩
end Go.Proofs.YtldmepofbkcmnaaDoor.Pr
