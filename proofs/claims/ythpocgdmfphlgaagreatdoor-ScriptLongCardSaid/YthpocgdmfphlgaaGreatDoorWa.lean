/- The witness of the row: the listed data fit. -/
import Derived.Test.YthpocgdmfphlgaaGreatDoorRows
import Derived.Clock
import Derived.OpenVars
import Derived.OpenShut
import Derived.LaidMore
import Derived.Lay
import Derived.Shelf.Vars
namespace Go.Proofs.YthpocgdmfphlgaaGreatDoor
open Go Go.ChangeShapes Go.WideShapes Go.ChangeAt Go.RowKit Go.Clock
set_option maxRecDepth 100000
theorem wit_fits (os : Os) : (World.holding Tryz.prog os ⟨#[], #[], []⟩).layFits Tryz.prog Rows.scriptLongRow.laid [] = true := by kernel_rfl
end Go.Proofs.YthpocgdmfphlgaaGreatDoor
