/- A command that needs an office prints error 423 without one. -/
import Derived.Test.YthpocgdmfphlgaaGreatDoorOpen
namespace Go.Proofs.YthpocgdmfphlgaaGreatDoor.SL
open Go.RowKit Go.Sort

set_option maxHeartbeats 1000000 in
set_option maxRecDepth 100000 in
/-- A command that needs an office, without one. -/
theorem opened_none (B b : Nat) (cs : Array Value) (l : List UInt8) (w : World) (hw : Env w) (h : Out B b cs l w) (hBw : B ≤ w.heap.size) (hl : l.length ≤ 1000000000) (k17 : cs[17]? = some (.pointer none)) (ga : Option Addr) (gn gc : Nat) (q : Value) :
    Calls Tryz.prog 50 #[.pointer (some ⟨b, 0, none⟩), .slice ga gn gc, q] w (Printed B b cs (l ++ errLine 423) w) := by
  have d17 : w.cell? ⟨b, 17, none⟩ = some (.pointer none) := by rw [cell_of h.heap]; exact k17
  have F := fail_any B b cs l w hw h hBw 423 (by decide) (by decide) hl
  have HF := Lib.hid F
  clear F
  go_enter Tryz.func50, Tryz.ntmps50
  go_wp2_with fail
  refine HF.out.mono ?_
  rintro e w2 ⟨rfl, hpost⟩
  go_wp2
  exact bodyPost_ret (results_none rfl _ _ _) rfl ⟨rfl, hpost⟩

section
variable (B b : Nat) (cs : Array Value) (l : List UInt8) (w : World) (cb ab : Nat) (c0 c1 c2 : Value) (ga : Option Addr) (gn gc : Nat)

set_option maxHeartbeats 1000000 in
theorem run1_38 (R : Ending → World → Prop) (hR : ∀ e w', R e w' → e = .returned (.tuple #[]))
    (hc : w.cell? ⟨cb, 3, none⟩ = some (.func (.func 32) #[] #[])) (ha : w.cell? ⟨ab, 0, none⟩ = some (.slice ga gn gc))
    (H : Hid (Calls Tryz.prog 32 #[.pointer (some ⟨b, 0, none⟩), .slice ga gn gc] w R)) :
    Calls Tryz.prog 11 #[.pointer (some ⟨b, 0, none⟩), .pointer (some ⟨cb, 0, none⟩), .pointer (some ⟨ab, 0, none⟩)] w R := by
  have HR := Lib.hid hR
  clear hR
  go_enter Tryz.func11, Tryz.ntmps11
  go_wp2_with fail
  refine H.out.mono ?_
  intro e w2 hpost
  have := HR.out _ _ hpost
  subst this
  go_wp2
  go_end0
  exact hpost

set_option maxHeartbeats 1000000 in
theorem run1_76 (q : Value) (R : Ending → World → Prop) (hR : ∀ e w', R e w' → e = .returned (.tuple #[]))
    (hc : w.cell? ⟨cb, 3, none⟩ = some (.func (.func 50) #[] #[q])) (ha : w.cell? ⟨ab, 0, none⟩ = some (.slice ga gn gc))
    (H : Hid (Calls Tryz.prog 50 #[.pointer (some ⟨b, 0, none⟩), .slice ga gn gc, q] w R)) :
    Calls Tryz.prog 11 #[.pointer (some ⟨b, 0, none⟩), .pointer (some ⟨cb, 0, none⟩), .pointer (some ⟨ab, 0, none⟩)] w R := by
  have HR := Lib.hid hR
  clear hR
  go_enter Tryz.func11, Tryz.ntmps11
  go_wp2_with fail
  refine H.out.mono ?_
  intro e w2 hpost
  have := HR.out _ _ hpost
  subst this
  go_wp2
  go_end0
  exact hpost
end
end Go.Proofs.YthpocgdmfphlgaaGreatDoor.SL
