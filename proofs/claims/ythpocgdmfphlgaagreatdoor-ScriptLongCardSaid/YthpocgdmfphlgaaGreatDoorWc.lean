/- The witness of the row: the world has its shape. -/
import Derived.Test.YthpocgdmfphlgaaGreatDoorRows
import Derived.Clock
import Derived.OpenVars
import Derived.OpenShut
import Derived.LaidMore
import Derived.Lay
import Derived.Shelf.Vars
namespace Go.Proofs.YthpocgdmfphlgaaGreatDoor
open Go Go.ChangeShapes Go.WideShapes Go.ChangeAt Go.RowKit Go.Clock
set_option maxRecDepth 100000
theorem wit_shaped (os : Os) : ((World.laidAll Tryz.prog os Rows.scriptLongRow.laid).forCall (fun _ _ => 0) ⟨#[], #[.int .i64 0], []⟩).Shaped Tryz.checked.prog := World.shaped_of_ZipB (by kernel_rfl) (by kernel_rfl)
end Go.Proofs.YthpocgdmfphlgaaGreatDoor
