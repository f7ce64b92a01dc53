/- A part of what the claim of 'FnGrdBlocks' leans on. -/
import Derived.Test.YtnalfnoebhmijaaDoorFnGrdBlocksPr0
import Derived.Test.YtnalfnoebhmijaaDoorFnGrdBlocksP0
import Derived.Laws.EntriesVeiled
namespace Go.Proofs.YtnalfnoebhmijaaDoor.Pr
open Go.RowKit Go.Proofs.YtnalfnoebhmijaaDoorW.PrintWords Go.Proofs.YtnalfnoebhmijaaDoorW.PrintLast Go.Proofs.YtnalfnoebhmijaaDoorW.PrintMore
attribute [local go_sem] max2_int min2_int max_two min_two max_three min_three max_four min_four
set_option linter.unusedVariables false
set_option linter.unusedSimpArgs false
def tin (lo hi n : Int) : Bool := decide (lo ≤ n) && decide (n ≤ hi)
def colB (a b : Int) : Bool := if a = 0 then b == 0 else if a = 1 then tin 0 60 b else if a = 2 then tin 1 100 b else false
def colsB (l : List S53) : Bool := l.any fun c => !(colB c.f0 c.f1)
end Go.Proofs.YtnalfnoebhmijaaDoor.Pr
