/- A part of what the claim of 'FnExactGrdFind' leans on. -/
import Derived.Test.YtemcdfkmpikegaaFnExactGrdFindPr0
import Derived.Test.YtemcdfkmpikegaaFnExactGrdFindPr16
import Derived.Test.YtemcdfkmpikegaaFnExactGrdFindPr37
import Derived.Test.YtemcdfkmpikegaaFnExactGrdFindPr4
import Derived.Test.YtemcdfkmpikegaaFnExactGrdFindQGrd
import Derived.Test.YtemcdfkmpikegaaFnExactGrdFindQTy
set_option linter.unusedVariables false
set_option linter.unusedSimpArgs false
namespace Go.Proofs.Ytemcdfkmpikegaa.Pure
open Go.RowKit Go.Proofs.Ytemcdfkmpikegaa.Pr Go.Proofs.YtemcdfkmpikegaaW.PrintWords Go.Proofs.YtemcdfkmpikegaaW.PrintLast Go.Proofs.YtemcdfkmpikegaaW.PrintMore
theorem FnExactGrdFind (g : S37) (row inn : Int) (hg : wf37 g) (_ : (Lit.int .i64 row).wf = true) (_ : (Lit.int .i64 inn).wf = true) : ∃ k, laws_FnExactGrdFind.f k g.f0 g.f1 g.f2 row inn = some true := by
  apply Run.get
  have hl : g.f2.length ≤ 9223372036854775807 := hg.2.2.1
  obtain ⟨r, hr, hb⟩ := szGrid g.f0 g.f1 g.f2 hl
  unfold laws_FnExactGrdFind.f
  refine Run.constBind hr (Run.ite (fun _ => Run.ret rfl) fun hn => ?_)
  have ti := toGrid g.f0 g.f1 g.f2 (hb hn)
  have hm : (g.f2.map cvG).length ≤ 9223372036854775807 := by simpa using hl
  refine Run.evBind ti (Run.evBind (specFind g.f0 g.f1 _ row inn hm) (Run.evBind ti (Run.constBind (show impl_GrdFind.f g.f0 g.f1 (g.f2.map cvG) row inn = some (idxOf (findB row inn) (g.f2.map cvG)) from rfl) (Run.pos rfl (Run.evBind ti (Run.evBind (eqGrid g.f0 g.f1 _ hm) (Run.pos rfl (Run.ret rfl))))))))
end Go.Proofs.Ytemcdfkmpikegaa.Pure
