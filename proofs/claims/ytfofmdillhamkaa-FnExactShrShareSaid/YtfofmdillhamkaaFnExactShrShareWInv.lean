/- A part of what the claim of 'FnExactShrShare' leans on. -/
import Derived.Test.YtfofmdillhamkaaFnExactShrShareWTab
namespace Go.Proofs.YtfofmdillhamkaaW.PrintLast
def up (b : Nat → Bool) (i : Nat) : Nat → Bool := fun j => if j = i then true else b j
end Go.Proofs.YtfofmdillhamkaaW.PrintLast
