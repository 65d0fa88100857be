/- The tie of the row of ScriptLong, out of its parts. -/
import Derived.Test.YthpocgdmfphlgaaGreatDoorTieA
import Derived.Test.YthpocgdmfphlgaaGreatDoorTieB
import Derived.Test.YthpocgdmfphlgaaGreatDoorTieC
import Derived.Test.YthpocgdmfphlgaaGreatDoorFactP
import Derived.Test.YthpocgdmfphlgaaGreatDoorRows
import Derived.Clock
import Derived.JoinedOf
import Derived.LaidByTextLater
import Derived.LaidOnce
import Derived.SevenTiedAt
import Derived.OpenVars
import Derived.Lay
import Derived.LaidMore
import Derived.OpenShut
import Derived.JoinedTies
namespace Go.Proofs.YthpocgdmfphlgaaGreatDoor
open Go Go.Clock Go.RowKit
set_option maxRecDepth 100000
theorem seatTie : Tryz.prog.laidByTextLater six [.data, .data, .data, .data, .sentinel, .sentinel] true :=
  @Program.laidByTextLater_by_one Tryz.prog six [.data, .data, .data, .data, .sentinel, .sentinel] true 72 8 65 tw0 tw1 tw2 tw3 tw4 tw5 tw6
theorem pin_laid_unicode_utf8_first : Tryz.pinned.checked.prog.pinnedFits "unicode/utf8.first" = true := by kernel_rfl
theorem noOwnUnsafe : Tryz.pinned.checked.prog.headLifts.contains "ownunsafe" = false := by kernel_rfl
theorem fits1 : Tryz.pinned.checked.prog.listedFits [("math/bits.deBruijn32tab", Rows.laid_math_bits_deBruijn32tab), ("math/bits.deBruijn64tab", Rows.laid_math_bits_deBruijn64tab), ("internal/strconv.uint64pow10", Rows.laid_internal_strconv_uint64pow10), ("unicode/utf8.acceptRanges", Rows.laid_unicode_utf8_acceptRanges), ("strconv.ErrRange", Rows.laid_strconv_ErrRange), ("strconv.ErrSyntax", Rows.laid_strconv_ErrSyntax), ("unicode/utf8.first", Rows.laid_unicode_utf8_first)] = true := by
  unfold Program.listedFits
  rw [noOwnUnsafe]
  kernel_rfl
theorem scriptLong_row_tie : Rows.scriptLongRow.laidByTextAt .later Tryz.pinned [.data, .data, .data, .data, .sentinel, .sentinel, .pinned] true :=
  OpenClaim.laidByTextAt_pinned rfl rfl seatTie rfl rfl rfl rfl (fun y hy _e => by
    simp only [Rows.scriptLongRow, List.zip_cons_cons, List.zip_nil_right, List.mem_cons, List.mem_nil_iff, or_false] at hy
    rcases hy with rfl | rfl | rfl | rfl | rfl | rfl | rfl
    · cases _e
    · cases _e
    · cases _e
    · cases _e
    · cases _e
    · cases _e
    · exact ⟨pin_laid_unicode_utf8_first, by kernel_rfl⟩) fits1
end Go.Proofs.YthpocgdmfphlgaaGreatDoor
