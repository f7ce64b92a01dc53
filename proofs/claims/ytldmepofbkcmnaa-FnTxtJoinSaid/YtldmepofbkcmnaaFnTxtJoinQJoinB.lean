/- A part of what the claim of 'FnTxtJoin' leans on. -/
import Derived.Test.YtldmepofbkcmnaaFnTxtJoinPr0
import Derived.Test.YtldmepofbkcmnaaFnTxtJoinQBl
import Derived.Test.YtldmepofbkcmnaaFnTxtJoinQGrp
import Derived.Lib.Join
set_option linter.unusedVariables false
set_option linter.unusedSimpArgs false
namespace Go.Proofs.Ytldmepofbkcmnaa.Pure
open Go.RowKit Go.Proofs.Ytldmepofbkcmnaa.Pr Go.Proofs.YtldmepofbkcmnaaW.PrintWords Go.Proofs.YtldmepofbkcmnaaW.PrintLast Go.Proofs.YtldmepofbkcmnaaW.PrintMore
theorem libJoin : ∀ l : List Wd, Go.Lib.join l [32] = joinL l
  | [] => rfl
  | [v] => Go.Lib.join_one v [32]
  | v :: u :: vs => by
    have ih := libJoin (u :: vs)
    rw [joinL_cons v (by simp), ← ih]
    simp [Go.Lib.join, List.intercalate, List.intersperse]
def joinB (l : List ByteArray) : ByteArray := ⟨(joinL (l.map bl)).toArray⟩
theorem joinB_size (l : List ByteArray) : (joinB l).size = (joinL (l.map bl)).length := by rw [bl_len]; rfl
end Go.Proofs.Ytldmepofbkcmnaa.Pure
