/- A part of what the claim of 'FnExactCellOk' leans on. -/
import Derived.Test.YtldmepofbkcmnaaDoorFnExactCellOkPr0
import Derived.Test.YtldmepofbkcmnaaDoorFnExactCellOkQLoop
import Derived.Test.YtldmepofbkcmnaaDoorFnExactCellOkQCut
import Derived.Lib.LazyBuf
set_option linter.unusedVariables false
set_option linter.unusedSimpArgs false
namespace Go.Proofs.YtldmepofbkcmnaaDoor.Pure
open Go.RowKit Go.Proofs.YtldmepofbkcmnaaDoor.Pr Go.Proofs.YtldmepofbkcmnaaDoorW.PrintWords Go.Proofs.YtldmepofbkcmnaaDoorW.PrintLast Go.Proofs.YtldmepofbkcmnaaDoorW.PrintMore
def bl (s : ByteArray) : List UInt8 := s.data.toList
theorem bl_len (s : ByteArray) : s.size = (bl s).length := Go.Lib.size_eq s
theorem bl_mk (l : List UInt8) : bl (⟨l.toArray⟩ : ByteArray) = l := rfl
theorem bt_bl (s : ByteArray) (i : Nat) (h : i < (bl s).length) : bt s (i : Int) = ((bl s)[i].toNat : Int) := by
  unfold bt
  have hs : i < s.size := by rw [bl_len]; exact h
  rw [Int.toNat_natCast, dif_pos hs]
  rfl
theorem rdS (l : List ByteArray) (i : Nat) (h : i < l.length) : rdOf ByteArray.empty l (i : Int) = l[i] := by unfold rdOf; simp [h]
theorem toList_nil (s : ByteArray) : s.toList = [] ↔ bl s = [] := by rw [Go.Lib.toList_data]; rfl
end Go.Proofs.YtldmepofbkcmnaaDoor.Pure
