/- The listed variables by name, as the door lays them. -/
import Derived.Test.YthpocgdmfphlgaaGreatDoorTieA
import Derived.Test.YthpocgdmfphlgaaGreatDoorFactP
import Derived.Test.YthpocgdmfphlgaaGreatDoorRows
import Derived.Clock
import Derived.JoinedOf
import Derived.LaidByTextLater
import Derived.LaidOnce
import Derived.SevenTiedAt
import Derived.OpenVars
import Derived.Lay
import Derived.LaidMore
import Derived.OpenShut
import Derived.JoinedTies
namespace Go.Proofs.YthpocgdmfphlgaaGreatDoor
open Go Go.Clock Go.RowKit
set_option maxRecDepth 100000
theorem tw3 : six.map (fun x => Tryz.prog.kindOfLater x.1) = [LaidKind.data, .data, .data, .data, .sentinel, .sentinel].map some := by kernel_rfl
theorem tw4 : (Tryz.prog.funcNamed "gosem.cut.vars").isSome = true := by rw [varsAt_is]; rfl
theorem tw5a : varsNamedLaterB Tryz.prog 822 six = true := by kernel_rfl
theorem tw5 : varsNamedLaterB Tryz.prog (varsId Tryz.prog) six = true := by rw [vid]; exact tw5a
end Go.Proofs.YthpocgdmfphlgaaGreatDoor
