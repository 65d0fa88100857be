/- The words of the program that the ties ask. -/
import Derived.Test.YthpocgdmfphlgaaGreatDoorFactP
import Derived.Test.YthpocgdmfphlgaaGreatDoorRows
import Derived.Clock
import Derived.JoinedOf
import Derived.LaidByTextLater
import Derived.LaidOnce
import Derived.SevenTiedAt
import Derived.OpenVars
import Derived.Lay
import Derived.LaidMore
import Derived.OpenShut
import Derived.JoinedTies
namespace Go.Proofs.YthpocgdmfphlgaaGreatDoor
open Go Go.Clock Go.RowKit
set_option maxRecDepth 100000
def six : List (String × DataW Unit) := [("math/bits.deBruijn32tab", Rows.laid_math_bits_deBruijn32tab), ("math/bits.deBruijn64tab", Rows.laid_math_bits_deBruijn64tab), ("internal/strconv.uint64pow10", Rows.laid_internal_strconv_uint64pow10), ("unicode/utf8.acceptRanges", Rows.laid_unicode_utf8_acceptRanges), ("strconv.ErrRange", Rows.laid_strconv_ErrRange), ("strconv.ErrSyntax", Rows.laid_strconv_ErrSyntax)]
theorem vid : varsId Tryz.prog = 822 := by
  unfold varsId
  rw [varsAt_is]
  rfl
theorem worded_list (P : Program) (word : String) : P.worded word = P.funcs.toList.any fun fn => fn.body.isNone && fn.name == word := by
  unfold Program.worded
  rw [Array.any_toList]
theorem tw0 : Tryz.prog.worded (varsWordLater true) = true := by
  rw [worded_list]; kernel_rfl
theorem tw1 : Tryz.prog.worded (varsWordLater !true) = false := by
  rw [worded_list]; kernel_rfl
theorem tw2 : Tryz.prog.worded rootWordLater = true := by
  rw [worded_list]; kernel_rfl
end Go.Proofs.YthpocgdmfphlgaaGreatDoor
