/- A part of what the claim of 'FnGrdFind' leans on. -/
import Derived.Test.YtnalfnoebhmijaaDoorFnGrdFindPr0
import Derived.Test.YtnalfnoebhmijaaDoorFnGrdFindP3
namespace Go.Proofs.YtnalfnoebhmijaaDoor.Pr
open Go.RowKit Go.Proofs.YtnalfnoebhmijaaDoorW.PrintWords Go.Proofs.YtnalfnoebhmijaaDoorW.PrintLast Go.Proofs.YtnalfnoebhmijaaDoorW.PrintMore
attribute [local go_sem] max2_int min2_int max_two min_two max_three min_three max_four min_four
set_option linter.unusedVariables false
set_option linter.unusedSimpArgs false
def meetsB (c d : S37) : Bool := decide (c.f0 < wrap64 (d.f0 + d.f2)) && (decide (d.f0 < wrap64 (c.f0 + c.f2)) && (decide (c.f1 < wrap64 (d.f1 + d.f3)) && decide (d.f1 < wrap64 (c.f1 + c.f3))))
end Go.Proofs.YtnalfnoebhmijaaDoor.Pr
