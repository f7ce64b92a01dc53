/- A part of what the claim of 'FnTxtJoin' leans on. -/
import Derived.Test.YtldmepofbkcmnaaFnTxtJoinPr0
import Derived.Test.YtldmepofbkcmnaaFnTxtJoinPr10
import Derived.Test.YtldmepofbkcmnaaFnTxtJoinPr5
import Derived.Test.YtldmepofbkcmnaaFnTxtJoinQJoinB
set_option linter.unusedVariables false
set_option linter.unusedSimpArgs false
namespace Go.Proofs.Ytldmepofbkcmnaa.Pure
open Go.RowKit Go.Proofs.Ytldmepofbkcmnaa.Pr Go.Proofs.YtldmepofbkcmnaaW.PrintWords Go.Proofs.YtldmepofbkcmnaaW.PrintLast Go.Proofs.YtldmepofbkcmnaaW.PrintMore
theorem implJoin (l : List ByteArray) (h1 : l.length ≤ 100000000000) (h2 : (joinL (l.map bl)).length ≤ 100000000000) : impl_TxtJoin.f l = some (joinB l) := by
  have e : Go.Lib.join (l.map (·.data.toList)) [32] = joinL (l.map bl) := libJoin _
  have hj : strings_Join.f l (⟨#[32]⟩ : ByteArray) = some (joinB l) := by
    unfold strings_Join.f
    rw [if_pos ⟨rfl, h1, by rw [e]; exact h2⟩]
    unfold joinP joinB
    rw [e]
  unfold impl_TxtJoin.f
  rw [hj]; rfl
end Go.Proofs.Ytldmepofbkcmnaa.Pure
