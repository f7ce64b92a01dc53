/- A part of what the claim of 'FnTxtJoin' leans on. -/
import Derived.Test.YtldmepofbkcmnaaFnTxtJoinPr0
import Derived.Lib.SplitLaws
import Derived.Lib.SlTrimSet
import Derived.Lib.JoinLaws
set_option linter.unusedVariables false
set_option linter.unusedSimpArgs false
namespace Go.Proofs.Ytldmepofbkcmnaa.Pure
open Go.RowKit Go.Proofs.Ytldmepofbkcmnaa.Pr Go.Proofs.YtldmepofbkcmnaaW.PrintWords Go.Proofs.YtldmepofbkcmnaaW.PrintLast Go.Proofs.YtldmepofbkcmnaaW.PrintMore
abbrev Wd := List UInt8
def joinL : List Wd → Wd
  | [] => []
  | [v] => v
  | v :: u :: vs => v ++ 32 :: joinL (u :: vs)
theorem joinL_cons (v : Wd) {vs : List Wd} (h : vs ≠ []) : joinL (v :: vs) = v ++ 32 :: joinL vs := by
  cases vs with
  | nil => exact absurd rfl h
  | cons u vs => rfl
theorem joinL_app : ∀ (a b : List Wd), a ≠ [] → b ≠ [] → joinL (a ++ b) = joinL a ++ 32 :: joinL b
  | [v], b, _, hb => by rw [List.singleton_append, joinL_cons v hb]; rfl
  | v :: u :: a, b, _, hb => by
    rw [List.cons_append, joinL_cons v (by simp), joinL_app (u :: a) b (by simp) hb, joinL_cons v (by simp)]
    simp
theorem joinL_snoc {g : List Wd} (v : Wd) (h : g ≠ []) : joinL (g ++ [v]) = joinL g ++ 32 :: v := joinL_app g [v] h (by simp)
theorem joinL_len (v : Wd) (g : List Wd) (h : g ≠ []) : (joinL (g ++ [v])).length = (joinL g).length + 1 + v.length := by
  rw [joinL_snoc v h]; simp; omega
end Go.Proofs.Ytldmepofbkcmnaa.Pure
