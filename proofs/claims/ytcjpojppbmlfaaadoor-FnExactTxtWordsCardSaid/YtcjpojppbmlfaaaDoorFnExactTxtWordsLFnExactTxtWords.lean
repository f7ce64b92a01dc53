/- A part of what the claim of 'FnExactTxtWords' leans on. -/
import Derived.Test.YtcjpojppbmlfaaaDoorFnExactTxtWordsPr0
import Derived.Test.YtcjpojppbmlfaaaDoorFnExactTxtWordsPr12
import Derived.Test.YtcjpojppbmlfaaaDoorFnExactTxtWordsQTxt3
set_option linter.unusedVariables false
set_option linter.unusedSimpArgs false
namespace Go.Proofs.YtcjpojppbmlfaaaDoor.Pure
open Go.RowKit Go.Proofs.YtcjpojppbmlfaaaDoor.Pr Go.Proofs.YtcjpojppbmlfaaaDoorW.PrintWords Go.Proofs.YtcjpojppbmlfaaaDoorW.PrintLast Go.Proofs.YtcjpojppbmlfaaaDoorW.PrintMore
theorem FnExactTxtWords (s : ByteArray) (h : s.size ≤ maxLen) : ∃ k, laws_FnExactTxtWords.f k s = some true := by
  apply Run.get
  unfold laws_FnExactTxtWords.f
  refine Run.ite (fun _ => Run.ret rfl) fun hb => ?_
  have iw := implWords s (by omega)
  have hw := wordsOf_le s
  have ew := eqStrs (wordsOf s) (by omega)
  have hd := heldStrs (wordsOf s).length (by omega)
  refine Run.evBind (specWords s (by omega)) (Run.evBind iw (Run.evBind ew (Run.pos rfl (Run.evBind (markStrs (wordsOf s) (by omega)) (Run.evBind hd (Run.neg (by omega) (Run.pos rfl (Run.evBind iw (Run.evBind ew (Run.pos rfl (Run.evBind hd (Run.neg (by omega) (Run.pos rfl (Run.ret rfl))))))))))))))
end Go.Proofs.YtcjpojppbmlfaaaDoor.Pure
