/- A part of what the claim of 'FnExactShrDue' leans on. -/
import Derived.Test.YtfofmdillhamkaaFnExactShrDuePr0
import Derived.Test.YtfofmdillhamkaaFnExactShrDuePr19
import Derived.Test.YtfofmdillhamkaaFnExactShrDuePr21
import Derived.Test.YtfofmdillhamkaaFnExactShrDueQLoop
set_option linter.unusedVariables false
set_option linter.unusedSimpArgs false
namespace Go.Proofs.Ytfofmdillhamkaa.Pure
open Go.RowKit Go.Proofs.Ytfofmdillhamkaa.Pr Go.Proofs.YtfofmdillhamkaaW.PrintWords Go.Proofs.YtfofmdillhamkaaW.PrintLast Go.Proofs.YtfofmdillhamkaaW.PrintMore
theorem toInts (l : List Int) (h : l.length ≤ 1048576) : Ev (fun k => laws_toIntS.f k l) l := by
  unfold laws_toIntS.f
  have loop : ∀ (d i : Nat), i + d = l.length → Ev (fun k => laws_toIntS.l0 k l (l.take i ++ List.replicate (l.length - i) 0) i) l := by
    intro d
    induction d with
    | zero =>
      intro i hi
      obtain rfl : i = l.length := by omega
      refine Ev.step (fun k => by rw [laws_toIntS.l0]) (evElse (by omega) (evNow (by rw [endStep])))
    | succ d ih =>
      intro i hi
      refine Ev.step (fun k => by rw [laws_toIntS.l0]) (evIf (by omega) (evIf (by omega) (evIf (by simp; omega) ?_)))
      rw [Int.toNat_natCast, rdNat l i (by omega), setStep l 0 i (by omega), wnext (n := l.length) (by omega) (by omega)]
      exact ih (i + 1) (by omega)
  refine evIf (by omega) (evIf (by omega) ?_)
  rw [Int.toNat_natCast, startStep]
  exact loop l.length 0 (by omega)
theorem eqInts (l : List Int) (h : l.length ≤ 9223372036854775807) : Ev (fun k => laws_eqIntS.f k l l) true := by
  unfold laws_eqIntS.f
  have loop : ∀ (d i : Nat), i + d = l.length → Ev (fun k => laws_eqIntS.l0 k l l i) true := by
    intro d
    induction d with
    | zero => exact fun i hi => Ev.step (fun k => by rw [laws_eqIntS.l0]) (evElse (by omega) (evNow rfl))
    | succ d ih =>
      intro i hi
      refine Ev.step (fun k => by rw [laws_eqIntS.l0]) (evIf (by omega) (evIf (by omega) (evIf (by omega) (evIf rfl ?_))))
      rw [wnext (n := l.length) (by omega) (by omega)]
      exact ih (i + 1) (by omega)
  exact evIf rfl (loop l.length 0 (by omega))
end Go.Proofs.Ytfofmdillhamkaa.Pure
