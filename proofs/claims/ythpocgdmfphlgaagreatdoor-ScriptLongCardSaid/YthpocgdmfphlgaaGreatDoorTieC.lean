/- What the door lays, by one run. -/
import Derived.Test.YthpocgdmfphlgaaGreatDoorTieA
import Derived.Test.YthpocgdmfphlgaaGreatDoorFactP
import Derived.Test.YthpocgdmfphlgaaGreatDoorRows
import Derived.Clock
import Derived.JoinedOf
import Derived.LaidByTextLater
import Derived.LaidOnce
import Derived.SevenTiedAt
import Derived.OpenVars
import Derived.Lay
import Derived.LaidMore
import Derived.OpenShut
import Derived.JoinedTies
namespace Go.Proofs.YthpocgdmfphlgaaGreatDoor
open Go Go.Clock Go.RowKit
set_option maxRecDepth 100000
theorem tw6 (os : Os) (tape : Tape) : doorLeaves Tryz.prog 72 8 65 six os tape = some (six.filter fun x => x.2.handleName?.isNone, (funcsListed six).map (·.2.funcsOut)) := by
  unfold doorLeaves
  rw [vid]
  kernel_rfl
end Go.Proofs.YthpocgdmfphlgaaGreatDoor
