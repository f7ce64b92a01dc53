/- A part of what the claim of 'FnExactTxtJoin' leans on. -/
import Derived.Test.YtcjpojppbmlfaaaFnExactTxtJoinPr0
import Derived.Test.YtcjpojppbmlfaaaFnExactTxtJoinPr3
import Derived.Test.YtcjpojppbmlfaaaFnExactTxtJoinPr4
import Derived.Test.YtcjpojppbmlfaaaFnExactTxtJoinPr6
import Derived.Test.YtcjpojppbmlfaaaFnExactTxtJoinQJoinI
import Derived.Test.YtcjpojppbmlfaaaFnExactTxtJoinQJoin
import Derived.Test.YtcjpojppbmlfaaaFnExactTxtJoinQEqS
set_option linter.unusedVariables false
set_option linter.unusedSimpArgs false
namespace Go.Proofs.Ytcjpojppbmlfaaa.Pure
open Go.RowKit Go.Proofs.Ytcjpojppbmlfaaa.Pr Go.Proofs.YtcjpojppbmlfaaaW.PrintWords Go.Proofs.YtcjpojppbmlfaaaW.PrintLast Go.Proofs.YtcjpojppbmlfaaaW.PrintMore
theorem joinL_total : ∀ (l : List ByteArray), (joinL (l.map bl)).length ≤ l.length + (l.map ByteArray.size).sum
  | [] => by simp [joinL]
  | v :: vs => by
    have ih := joinL_total vs
    have hv := bl_len v
    rw [List.map_cons, List.map_cons, List.sum_cons, List.length_cons]
    by_cases e : vs = []
    · subst e; show (bl v).length ≤ _; omega
    · rw [joinL_cons _ (by simpa using e), List.length_append, List.length_cons]; omega
theorem szStrs (l : List ByteArray) (hl : l.length ≤ 9223372036854775807) (hs : ∀ s ∈ l, s.size ≤ maxLen) : ∃ r, Ev (fun k => laws_szStringS.f k l 1048576) r ∧ (¬ r < 0 → l.length ≤ 1048576 ∧ (l.map ByteArray.size).sum ≤ 1048576) := by
  have e : wrap64 (1048576 - (l.length : Int)) = 1048576 - (l.length : Int) := w64 (by omega) (by omega)
  unfold laws_szStringS.f
  rw [e]
  clear e
  by_cases h : 1048576 - (l.length : Int) < 0
  · exact ⟨-1, evIf h (evNow rfl), by omega⟩
  · have loop : ∀ (d i : Nat) (m : Int), i + d = l.length → 0 ≤ m → m ≤ 1048576 → ∃ r, Ev (fun k => laws_szStringS.l0 k l m i) r ∧ (¬ r < 0 → (((l.drop i).map ByteArray.size).sum : Int) ≤ m) := by
      intro d
      induction d with
      | zero =>
        intro i m hi hm hm1
        refine ⟨m, Ev.step (fun k => by rw [laws_szStringS.l0]) (evElse (by omega) (evNow rfl)), fun _ => ?_⟩
        rw [show i = l.length by omega, List.drop_length]; simpa using hm
      | succ d ih =>
        intro i m hi hm hm1
        have hlt : i < l.length := by omega
        have hz := hs _ (List.getElem_mem hlt)
        have hi0 : (0 : Int) ≤ (i : Int) := by omega
        have hi1 : (i : Int) < (l.length : Int) := by omega
        unfold maxLen at hz
        by_cases hn : m - (l[i].size : Int) < 0
        · refine ⟨-1, ?_, by omega⟩
          have ew : wrap64 (m - (l[i].size : Int)) = m - (l[i].size : Int) := w64 (by omega) (by omega)
          refine Ev.step (fun k => by rw [laws_szStringS.l0]) (evIf hi1 (evIf hi0 ?_))
          rw [rdS l i hlt, ew]
          exact evIf hn (evNow rfl)
        · obtain ⟨r, hr, hr2⟩ := ih (i + 1) (m - (l[i].size : Int)) (by omega) (by omega) (by omega)
          refine ⟨r, ?_, fun h0 => ?_⟩
          · have en := wnext (n := l.length) (i := i) (by omega) hl
            have ew : wrap64 (m - (l[i].size : Int)) = m - (l[i].size : Int) := w64 (by omega) (by omega)
            refine Ev.step (fun k => by rw [laws_szStringS.l0]) (evIf hi1 (evIf hi0 ?_))
            rw [rdS l i hlt, ew, en]
            exact evElse hn hr
          · have := hr2 h0
            rw [dropCons l i hlt, List.map_cons, List.sum_cons]
            omega
    obtain ⟨r, hr, hr2⟩ := loop l.length 0 (1048576 - l.length) (by omega) (by omega) (by omega)
    refine ⟨r, evElse h hr, fun h0 => ?_⟩
    have := hr2 h0
    rw [List.drop_zero] at this
    exact ⟨by omega, by omega⟩
theorem toStrs (l : List ByteArray) (h : l.length ≤ 1048576) : Ev (fun k => laws_toStringS.f k l) l := by
  unfold laws_toStringS.f
  refine evIf (by omega) (evIf (by omega) ?_)
  rw [Int.toNat_natCast]
  have := cpLoop l (fun x => x) (⟨#[]⟩ : ByteArray) (by omega) (fun k xs i => laws_toStringS.l0 k l xs i) (fun _ i => some (rdOf ByteArray.empty l i)) (fun k xs i => by show laws_toStringS.l0 (k + 1) l xs i = _; rw [laws_toStringS.l0]; rfl) (fun i hi => evNow (by rw [rdS l i hi]))
  simpa using this
theorem FnExactTxtJoin (l : List ByteArray) (h : l.length ≤ 9223372036854775807 ∧ ∀ x ∈ l, x.size ≤ maxLen) : ∃ k, laws_FnExactTxtJoin.f k l = some true := by
  apply Run.get
  unfold laws_FnExactTxtJoin.f
  obtain ⟨r, hr, hr2⟩ := szStrs l h.1 h.2
  refine Run.evBind hr (Run.ite (fun _ => Run.ret rfl) fun hn => ?_)
  obtain ⟨h1, h2⟩ := hr2 hn
  have h3 := joinL_total l
  have ts := toStrs l h1
  refine Run.evBind ts (Run.evBind (specJoin l (by omega) (by omega)) (Run.evBind ts (Run.constBind (implJoin l (by omega) (by omega)) (Run.pos rfl (Run.evBind ts (Run.evBind (eqStrs l (by omega)) (Run.pos rfl (Run.ret rfl))))))))
end Go.Proofs.Ytcjpojppbmlfaaa.Pure
