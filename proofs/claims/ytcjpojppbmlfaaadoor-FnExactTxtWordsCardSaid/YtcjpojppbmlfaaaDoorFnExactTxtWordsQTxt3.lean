/- A part of what the claim of 'FnExactTxtWords' leans on. -/
import Derived.Test.YtcjpojppbmlfaaaDoorFnExactTxtWordsPr0
import Derived.Test.YtcjpojppbmlfaaaDoorFnExactTxtWordsPr32
import Derived.Test.YtcjpojppbmlfaaaDoorFnExactTxtWordsPr33
import Derived.Test.YtcjpojppbmlfaaaDoorFnExactTxtWordsPr36
import Derived.Test.YtcjpojppbmlfaaaDoorFnExactTxtWordsPr37
import Derived.Test.YtcjpojppbmlfaaaDoorFnExactTxtWordsPr38
import Derived.Test.YtcjpojppbmlfaaaDoorFnExactTxtWordsPr58
import Derived.Test.YtcjpojppbmlfaaaDoorFnExactTxtWordsPr60
import Derived.Test.YtcjpojppbmlfaaaDoorFnExactTxtWordsQTxt2
set_option linter.unusedVariables false
set_option linter.unusedSimpArgs false
namespace Go.Proofs.YtcjpojppbmlfaaaDoor.Pure
open Go.RowKit Go.Proofs.YtcjpojppbmlfaaaDoor.Pr Go.Proofs.YtcjpojppbmlfaaaDoorW.PrintWords Go.Proofs.YtcjpojppbmlfaaaDoorW.PrintLast Go.Proofs.YtcjpojppbmlfaaaDoorW.PrintMore
theorem eqStrs (l : List ByteArray) (h : l.length ≤ 9223372036854775807) : Ev (fun k => laws_eqStringS.f k l l) true := by
  unfold laws_eqStringS.f
  refine evIf rfl ?_
  refine allLoop0 l.length h (fun k i => laws_eqStringS.l0 k l l i) (fun _ _ => some true) ?_ ?_ (fun _ _ => evNow rfl)
  · intro k i hi
    show laws_eqStringS.l0 (k + 1) l l i = _
    rw [laws_eqStringS.l0, if_pos (by omega), if_pos (by omega), if_pos (by omega), if_pos rfl]; rfl
  · intro k
    show laws_eqStringS.l0 (k + 1) l l l.length = _
    rw [laws_eqStringS.l0, if_neg (by omega)]
theorem markText (n : Int) (h : n ≤ 1000000000) : ∃ t, Ev (fun k => laws_markText.f k n) t := by
  unfold laws_markText.f
  by_cases h0 : n ≤ 0
  · exact ⟨_, evIf h0 (evNow rfl)⟩
  · have loop : ∀ (d : Nat) (m : Nat) (o : ByteArray), m < 10 ^ d → m ≤ 1000000000 → o.size + d ≤ 100 → ∃ t, Ev (fun k => laws_markText.l0 k (m : Int) o) t := by
      intro d
      induction d with
      | zero =>
        intro m o hm _ ho
        have : m = 0 := by simpa using hm
        subst this
        exact ⟨_, Ev.step (fun k => by rw [laws_markText.l0]) (evElse (by omega) (evIf (by omega) (evNow rfl)))⟩
      | succ d ih =>
        intro m o hm hm9 ho
        by_cases hz : m = 0
        · subst hz
          refine ⟨(⟨#[109]⟩ : ByteArray) ++ o, ?_⟩
          refine Ev.step (fun k => by rw [laws_markText.l0]) ?_
          exact evElse (by omega) (evIf (by omega) (evNow rfl))
        · have e1 : wrap64 (Int.tdiv (m : Int) 10) = ((m / 10 : Nat) : Int) := by
            rw [show Int.tdiv (m : Int) 10 = ((m / 10 : Nat) : Int) from rfl]; exact w64 (by omega) (by omega)
          have s1 : ∀ x : Int, (strOfNums [x]).size = 1 := fun x => rfl
          obtain ⟨t, ht⟩ := ih (m / 10) ((strOfNums [(wrap64 (48 + (Int.tmod (m : Int) 10))) % 256]) ++ o) (by rw [Nat.pow_succ] at hm; omega) (by omega) (by rw [ByteArray.size_append, s1]; omega)
          refine ⟨t, ?_⟩
          refine Ev.step (fun k => by rw [laws_markText.l0]) ?_
          refine evIf (by omega) ?_
          refine evSome ?_
          refine evIf (by rw [s1]; omega) ?_
          rw [e1]; exact ht
    obtain ⟨m, rfl⟩ : ∃ m : Nat, n = m := ⟨n.toNat, by omega⟩
    obtain ⟨t, ht⟩ := loop 10 m (⟨#[]⟩ : ByteArray) (by omega) (by omega) (by show 0 + 10 ≤ 100; omega)
    exact ⟨t, evElse h0 ht⟩
noncomputable def mkT (n : Int) : ByteArray := if h : n ≤ 1000000000 then Classical.choose (markText n h) else ByteArray.empty
theorem mkT_ev (n : Int) (h : n ≤ 1000000000) : Ev (fun k => laws_markText.f k n) (mkT n) := by
  unfold mkT
  rw [dif_pos h]
  exact Classical.choose_spec (markText n h)
noncomputable def marksT (n : Nat) : List ByteArray := (List.range n).map fun i => mkT ((i + 1 : Nat) : Int)
theorem markStrs (l : List ByteArray) (h : l.length ≤ 2000000) : Ev (fun k => laws_markStringS.f k l 1) (((l.length + 1 : Nat) : Int), marksT l.length) := by
  have loop : ∀ (d i : Nat), i + d = l.length → Ev (fun k => laws_markStringS.l0 k (marksT i ++ l.drop i) ((i + 1 : Nat) : Int) i) (((l.length + 1 : Nat) : Int), marksT l.length) := by
    intro d
    induction d with
    | zero =>
      intro i hi
      obtain rfl : i = l.length := by omega
      have hl : (marksT l.length ++ l.drop l.length).length = l.length := by simp [marksT]
      refine Ev.step (fun k => by rw [laws_markStringS.l0]) ?_
      exact evElse (by rw [hl]; omega) (evNow (by simp))
    | succ d ih =>
      intro i hi
      have hl : (marksT i ++ l.drop i).length = l.length := by simp [marksT]; omega
      have hs : (marksT i ++ l.drop i).set i (mkT ((i + 1 : Nat) : Int)) = marksT (i + 1) ++ l.drop (i + 1) := by
        rw [dropCons l i (by omega), List.set_append_right _ _ (by simp [marksT]), show i - (marksT i).length = 0 by simp [marksT], List.set_cons_zero]
        simp [marksT, List.range_succ]
      refine Ev.step (fun k => by rw [laws_markStringS.l0]) ?_
      refine evIf (by rw [hl]; omega) ?_
      refine (mkT_ev _ (by omega)).bind ?_
      refine evIf (by omega) ?_
      rw [Int.toNat_natCast, hs, wnext (i := i) (n := 3000000) (by omega) (by omega), wnext (i := i + 1) (n := 3000000) (by omega) (by omega)]
      exact ih (i + 1) (by omega)
  have := loop l.length 0 (by omega)
  simpa [marksT, laws_markStringS.f] using this
theorem heldStrs (n : Nat) (h : n ≤ 2000000) : Ev (fun k => laws_heldStringS.f k (marksT n) 1) ((n + 1 : Nat) : Int) := by
  have hl : (marksT n).length = n := by simp [marksT]
  have loop : ∀ (d i : Nat), i + d = n → Ev (fun k => laws_heldStringS.l0 k (marksT n) ((i + 1 : Nat) : Int) i) ((n + 1 : Nat) : Int) := by
    intro d
    induction d with
    | zero =>
      intro i hi
      obtain rfl : i = n := by omega
      refine Ev.step (fun k => by rw [laws_heldStringS.l0]) ?_
      exact evElse (by rw [hl]; omega) (evNow rfl)
    | succ d ih =>
      intro i hi
      have hr : rdOf ByteArray.empty (marksT n) (i : Int) = mkT ((i + 1 : Nat) : Int) := by
        rw [rdS _ i (by rw [hl]; omega)]; simp [marksT]
      refine Ev.step (fun k => by rw [laws_heldStringS.l0]) ?_
      refine evIf (by rw [hl]; omega) ?_
      refine evIf (by omega) ?_
      refine (mkT_ev _ (by omega)).bind ?_
      refine evIf (by rw [hr]) ?_
      rw [wnext (i := i) (n := 3000000) (by omega) (by omega), wnext (i := i + 1) (n := 3000000) (by omega) (by omega)]
      exact ih (i + 1) (by omega)
  have := loop n 0 (by omega)
  simpa [laws_heldStringS.f] using this
end Go.Proofs.YtcjpojppbmlfaaaDoor.Pure
