/- The witness of the row: the listed interface values are laid. -/
import Derived.Test.YthpocgdmfphlgaaGreatDoorRows
import Derived.Clock
import Derived.OpenVars
import Derived.OpenShut
import Derived.LaidMore
import Derived.Lay
import Derived.Shelf.Vars
namespace Go.Proofs.YthpocgdmfphlgaaGreatDoor
open Go Go.ChangeShapes Go.WideShapes Go.ChangeAt Go.RowKit Go.Clock
set_option maxRecDepth 100000
theorem wit_ifaces (os : Os) : (World.holding Tryz.prog os ⟨#[], #[], []⟩).layIfaces Tryz.prog Rows.scriptLongRow.laid (World.laidAll Tryz.prog os Rows.scriptLongRow.laid) = true := by kernel_rfl
end Go.Proofs.YthpocgdmfphlgaaGreatDoor
