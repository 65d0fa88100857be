/- The witness of the row: the argument is read. -/
import Derived.Test.YthpocgdmfphlgaaGreatDoorRows
import Derived.Clock
import Derived.OpenVars
import Derived.OpenShut
import Derived.LaidMore
import Derived.Lay
import Derived.Shelf.Vars
namespace Go.Proofs.YthpocgdmfphlgaaGreatDoor
open Go Go.ChangeShapes Go.WideShapes Go.ChangeAt Go.RowKit Go.Clock
set_option maxRecDepth 100000
theorem wit_ok (os : Os) : Input.okWideB Tryz.prog ((World.laidAll Tryz.prog os Rows.scriptLongRow.laid).forCall (fun _ _ => 0) ⟨#[], #[.int .i64 0], []⟩) 3 ⟨#[], #[.int .i64 0], []⟩ = true := by kernel_rfl
theorem wit_pre (os : Os) (H : Type) (enc : TypeId × Value → H) : Rows.scriptLongSpec.preB enc Tryz.prog Tryz.f3 [] false ((World.laidAll Tryz.prog os Rows.scriptLongRow.laid).forCall (fun _ _ => 0) ⟨#[], #[.int .i64 0], []⟩).memory #[.int .i64 0] 8 = true := by kernel_rfl
theorem wit_size (os : Os) (H : Type) (enc : TypeId × Value → H) : Rows.scriptLongSpec.sizedB enc Tryz.prog Tryz.f3 false ((World.laidAll Tryz.prog os Rows.scriptLongRow.laid).forCall (fun _ _ => 0) ⟨#[], #[.int .i64 0], []⟩).memory #[.int .i64 0] 8 = true := by kernel_rfl
theorem sh_row : ((begin Tryz.prog (fun _ _ => 0) default).world.heap[0]?).bind Obj.row? = some (#[.int .i64 0], 3) := by kernel_rfl
theorem sh_build : Tryz.prog.buildable 3 = true := by kernel_rfl
theorem sh_cells : Tryz.prog.cellTypes Tryz.prog.depth 3 = some [3] := by kernel_rfl
end Go.Proofs.YthpocgdmfphlgaaGreatDoor
