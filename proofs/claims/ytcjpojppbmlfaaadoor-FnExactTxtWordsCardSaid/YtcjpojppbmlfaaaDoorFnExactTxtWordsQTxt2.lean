/- A part of what the claim of 'FnExactTxtWords' leans on. -/
import Derived.Test.YtcjpojppbmlfaaaDoorFnExactTxtWordsPr0
import Derived.Test.YtcjpojppbmlfaaaDoorFnExactTxtWordsPr27
import Derived.Test.YtcjpojppbmlfaaaDoorFnExactTxtWordsPr28
import Derived.Test.YtcjpojppbmlfaaaDoorFnExactTxtWordsPr34
import Derived.Test.YtcjpojppbmlfaaaDoorFnExactTxtWordsPr35
import Derived.Test.YtcjpojppbmlfaaaDoorFnExactTxtWordsPr55
import Derived.Test.YtcjpojppbmlfaaaDoorFnExactTxtWordsPr59
import Derived.Test.YtcjpojppbmlfaaaDoorFnExactTxtWordsQTxt
set_option linter.unusedVariables false
set_option linter.unusedSimpArgs false
namespace Go.Proofs.YtcjpojppbmlfaaaDoor.Pure
open Go.RowKit Go.Proofs.YtcjpojppbmlfaaaDoor.Pr Go.Proofs.YtcjpojppbmlfaaaDoorW.PrintWords Go.Proofs.YtcjpojppbmlfaaaDoorW.PrintLast Go.Proofs.YtcjpojppbmlfaaaDoorW.PrintMore
def wordsOf (s : ByteArray) : List ByteArray := if bl s = [] then [] else if txtOk s = true then cutB s else []
theorem one_byteB (s : ByteArray) (i : Nat) (h : i < (bl s).length) : bl (strOfNums [bt s (i : Int)]) = [(bl s)[i]] := by
  rw [bt_bl s i h]
  show (([((bl s)[i].toNat : Int)]).map fun z => UInt8.ofNat z.toNat).toArray.toList = _
  simp
theorem sizeOne (s : ByteArray) (i : Nat) (h : i < (bl s).length) : (strOfNums [bt s (i : Int)]).size = 1 := by
  rw [bl_len, one_byteB s i h]; rfl
def glue (w : ByteArray) : List (List UInt8) → List ByteArray
  | [] => [w]
  | v :: vs => ⟨(bl w ++ v).toArray⟩ :: vs.map fun l => ⟨l.toArray⟩
theorem specCut (s : ByteArray) (h : s.size ≤ 1048576) : Ev (fun k => spec_l1Cut.f k s) (cutB s) := by
  unfold spec_l1Cut.f
  have hsz := bl_len s
  have loop : ∀ (d i : Nat) (out : List ByteArray) (w : ByteArray), i + d = (bl s).length → out.length ≤ i → w.size ≤ i → Ev (fun k => spec_l1Cut.l0 k s out w i) (out ++ glue w (cutL ((bl s).drop i))) := by
    intro d
    induction d with
    | zero =>
      intro i out w hi ho hw
      rw [show i = (bl s).length by omega, List.drop_length]
      refine Ev.step (fun k => by rw [spec_l1Cut.l0]) ?_
      refine evElse (by omega) (evIf (by omega) (evNow ?_))
      have : glue w (cutL []) = [w] := by
        have e : (⟨(bl w ++ []).toArray⟩ : ByteArray) = w := bl_ext (by rw [List.append_nil, bl_mk])
        show [(⟨(bl w ++ []).toArray⟩ : ByteArray)] = [w]
        rw [e]
      rw [this]
    | succ d ih =>
      intro i out w hi ho hw
      have hlt : i < (bl s).length := by omega
      have en := wnext (n := (bl s).length) (i := i) (by omega) (by omega)
      have hb := bt_bl s i hlt
      have h1 := one_byteB s i hlt
      have h2 := sizeOne s i hlt
      rw [dropCons _ i hlt]
      refine Ev.step (fun k => by rw [spec_l1Cut.l0]) (evIf (by omega) (evIf (by omega) ?_))
      by_cases h32 : (bl s)[i] = 32
      · refine evIf (by rw [hb]; exact byte32.mpr h32) (evIf (by omega) ?_)
        rw [en, h32, cutL_blank]
        have := ih (i + 1) (out ++ [w]) (⟨#[]⟩ : ByteArray) (by omega) (by simp; omega) (by show 0 ≤ i + 1; omega)
        obtain ⟨v, vs, e⟩ := cutL_ne ((bl s).drop (i + 1))
        rw [e] at this ⊢
        have e2 : out ++ glue w ([] :: v :: vs) = out ++ [w] ++ glue (⟨#[]⟩ : ByteArray) (v :: vs) := by
          simp only [glue, List.append_nil, List.map_cons, List.append_assoc, List.singleton_append]
          congr 1
        rw [e2]; exact this
      · refine evElse (by rw [hb]; exact fun e => h32 (byte32.mp e)) ?_
        refine evSome (evIf (by rw [h2]; omega) ?_)
        rw [en]
        have := ih (i + 1) out (w ++ strOfNums [bt s (i : Int)]) (by omega) (by omega) (by rw [bl_len, bl_app, List.length_append, ← bl_len, ← bl_len, h2]; omega)
        obtain ⟨v, vs, e⟩ := cutL_ne ((bl s).drop (i + 1))
        rw [cutL_other h32 e]
        rw [e] at this
        have e2 : glue (w ++ strOfNums [bt s (i : Int)]) (v :: vs) = glue w (((bl s)[i] :: v) :: vs) := by
          unfold glue
          rw [bl_app, h1]; simp
        rw [e2] at this; exact this
  have := loop (bl s).length 0 [] (⟨#[]⟩ : ByteArray) (by omega) (by simp) (by show 0 ≤ 0; omega)
  rw [List.drop_zero, List.nil_append] at this
  have e : glue (⟨#[]⟩ : ByteArray) (cutL (bl s)) = cutB s := by
    unfold cutB
    obtain ⟨v, vs, e⟩ := cutL_ne (bl s)
    rw [show s.data.toList = bl s from rfl, e]; rfl
  rw [e] at this
  exact this
theorem specWords (s : ByteArray) (h : s.size ≤ 9223372036854775807) : Ev (fun k => spec_TxtWords.f k s) (wordsOf s) := by
  unfold spec_TxtWords.f wordsOf
  by_cases h0 : bl s = []
  · rw [if_pos h0]; exact evIf ((toList_nil s).mpr h0) (evNow rfl)
  · rw [if_neg h0]
    refine evElse (fun e => h0 ((toList_nil s).mp e)) ((specTxtOk s h).bind ?_)
    cases ho : txtOk s with
    | false => exact evElse (by simp) (evNow rfl)
    | true => have := txtOk_le ho; exact evIf rfl ((specCut s (by omega)).bind (evNow rfl))
theorem implWords (s : ByteArray) (h : s.size < 4294967281) : Ev (fun k => impl_TxtWords.f k s) (wordsOf s) := by
  unfold impl_TxtWords.f wordsOf
  by_cases h0 : bl s = []
  · rw [if_pos h0]; exact evIf ((toList_nil s).mpr h0) (evNow rfl)
  · rw [if_neg h0]
    refine evElse (fun e => h0 ((toList_nil s).mp e)) ((implTxtOk s h).bind ?_)
    cases ho : txtOk s with
    | false => exact evElse (by simp) (evNow rfl)
    | true => exact evIf rfl (evBindC (show strings_Split.f s (⟨#[32]⟩ : ByteArray) = some (cutB s) by unfold strings_Split.f; rw [if_pos ⟨rfl, h⟩]) (evNow rfl))
theorem wordsOf_le (s : ByteArray) : (wordsOf s).length ≤ 31 := by
  unfold wordsOf
  split
  · simp
  · split
    · rename_i ho
      have h := txtOk_le ho
      have := List.count_le_length (a := (32 : UInt8)) (l := bl s)
      rw [cutB, List.length_map, cutL_length]
      show (bl s).count 32 + 1 ≤ 31
      rw [bl_len] at h; omega
    · simp
end Go.Proofs.YtcjpojppbmlfaaaDoor.Pure
