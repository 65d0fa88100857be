/- awake returns true, so ScriptLong returns true for every integer. -/
import Derived.Test.YthpocgdmfphlgaaGreatDoorAwake2
import Derived.Test.YthpocgdmfphlgaaGreatDoorLong
namespace Go.Proofs.YthpocgdmfphlgaaGreatDoor.SL
open Go.RowKit

theorem script_eq : (⟨#[111, 112, 101, 110, 10, 115, 104, 111, 119, 32, 97, 108, 108, 32, 50, 48, 50, 52, 45, 48, 49, 10]⟩ : ByteArray) = bs tScript := rfl

set_option maxHeartbeats 1000000 in
set_option maxRecDepth 100000 in
theorem awake_any (w : World) (hw : Env w) : Calls Tryz.prog 6 #[] w fun e w' => e = .returned (.bool true) ∧ Below w.heap.size w w' := by
  have A := run_awake w hw
  have HA := Lib.hid A
  have hE : ((bs (errLine 61 ++ errLine 423)).toList == [101, 114, 114, 111, 114, 32, 54, 49, 10, 101, 114, 114, 111, 114, 32, 52, 50, 51, 10]) = true := by rw [ByteArray.toList_eq]; decide +kernel
  clear A
  go_enter Tryz.func6, Tryz.ntmps6
  go_wp2_with fail
  refine HA.out.mono ?_
  rintro e w1 ⟨rfl, hb⟩
  go_wp2
  go_ret
  exact ⟨by rw [← hE]; rfl, hb⟩

theorem long_any (n : Int) (w : World) (hw : Env w) : Calls Tryz.prog 3 #[.int .i64 n] w fun e w' => e = .returned (.bool true) ∧ Below w.heap.size w w' :=
  long_walk n w hw awake_any
end Go.Proofs.YthpocgdmfphlgaaGreatDoor.SL
