/- A part of what the claim of 'FnExactTxtJoin' leans on. -/
import Derived.Test.YtcjpojppbmlfaaaFnExactTxtJoinPr0
import Derived.Test.YtcjpojppbmlfaaaFnExactTxtJoinQBl
import Derived.Test.YtcjpojppbmlfaaaFnExactTxtJoinQGrp
import Derived.Lib.Join
set_option linter.unusedVariables false
set_option linter.unusedSimpArgs false
namespace Go.Proofs.Ytcjpojppbmlfaaa.Pure
open Go.RowKit Go.Proofs.Ytcjpojppbmlfaaa.Pr Go.Proofs.YtcjpojppbmlfaaaW.PrintWords Go.Proofs.YtcjpojppbmlfaaaW.PrintLast Go.Proofs.YtcjpojppbmlfaaaW.PrintMore
theorem libJoin : ∀ l : List Wd, Go.Lib.join l [32] = joinL l
  | [] => rfl
  | [v] => Go.Lib.join_one v [32]
  | v :: u :: vs => by
    have ih := libJoin (u :: vs)
    rw [joinL_cons v (by simp), ← ih]
    simp [Go.Lib.join, List.intercalate, List.intersperse]
def joinB (l : List ByteArray) : ByteArray := ⟨(joinL (l.map bl)).toArray⟩
end Go.Proofs.Ytcjpojppbmlfaaa.Pure
