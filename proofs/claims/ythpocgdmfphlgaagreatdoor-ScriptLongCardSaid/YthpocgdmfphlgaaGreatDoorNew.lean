/- office.New on an empty setup gives error 61. -/
import Derived.Test.YthpocgdmfphlgaaGreatDoorPrint
namespace Go.Proofs.YthpocgdmfphlgaaGreatDoor.SL
open Go.RowKit Go.Sort

set_option maxHeartbeats 1000000 in
theorem validate_nil (v0 : Value) (h0 : v0 = .string ⟨#[]⟩) (a : Option Addr) (c : Nat) (w : World) :
    Calls Tryz.prog 137 #[.agg #[v0, .slice a 0 c]] w fun e w' => e = .returned (.int .i64 61) ∧ Below w.heap.size w w' := by
  subst h0
  go_enter Tryz.func137, Tryz.ntmps137
  go_wp2
  go_ret
  exact ⟨rfl, (Below.refl _ _).alloc (Nat.le_refl _) _⟩

/-- The setup's cells as the state holds them, no codes. -/
def setup0 (a : Option Addr) (n : Nat) (l1 l2 l3 l4 l5 l6 : Option Addr × Nat × Nat) (plan : ByteArray) (first lag : Int) : Array Value :=
  #[.slice a 0 n, .slice l1.1 l1.2.1 l1.2.2, .slice l2.1 l2.2.1 l2.2.2, .slice l3.1 l3.2.1 l3.2.2, .slice l4.1 l4.2.1 l4.2.2, .slice l5.1 l5.2.1 l5.2.2, .string plan, .int .i64 first, .int .i64 lag, .slice l6.1 l6.2.1 l6.2.2]

section
variable (a : Option Addr) (n : Nat) (a1 : Option Addr) (n1 c1 : Nat) (a2 : Option Addr) (n2 c2 : Nat) (a3 : Option Addr) (n3 c3 : Nat) (a4 : Option Addr) (n4 c4 : Nat) (a5 : Option Addr) (n5 c5 : Nat) (a6 : Option Addr) (n6 c6 : Nat) (plan : ByteArray) (first lag : Int)

set_option maxHeartbeats 1000000 in
theorem validateSetup_nil (w : World) :
    Calls Tryz.prog 77 #[.agg #[.slice a 0 n, .slice a1 n1 c1, .slice a2 n2 c2, .slice a3 n3 c3, .slice a4 n4 c4, .slice a5 n5 c5, .string plan, .int .i64 first, .int .i64 lag, .slice a6 n6 c6]] w fun e w' => e = .returned (.int .i64 61) ∧ Below w.heap.size w w' := by
  go_enter Tryz.func77, Tryz.ntmps77
  go_wp2_with (go_at_call 137; refine (validate_nil _ rfl _ _ _).mono ?_; rintro e w1 ⟨rfl, hb1⟩)
  go_ret
  exact ⟨rfl, ((Below.refl _ _).alloc (Nat.le_refl _) _).trans (hb1.mono (by simp))⟩

set_option maxHeartbeats 1000000 in
theorem new_nil (w : World) :
    Calls Tryz.prog 48 #[.agg #[.slice a 0 n, .slice a1 n1 c1, .slice a2 n2 c2, .slice a3 n3 c3, .slice a4 n4 c4, .slice a5 n5 c5, .string plan, .int .i64 first, .int .i64 lag, .slice a6 n6 c6]] w fun e w' =>
      e = .returned (.tuple #[.agg #[.slice none 0 0, .slice none 0 0, .slice none 0 0, .slice none 0 0, .slice none 0 0, .slice none 0 0, .string ⟨#[]⟩, .int .i64 0, .int .i64 0, .slice none 0 0, .slice none 0 0, .slice none 0 0], .int .i64 61]) ∧ Below w.heap.size w w' := by
  go_enter Tryz.func48, Tryz.ntmps48
  go_wp2_with fail
  refine (validateSetup_nil _ _ _ _ _ _ _ _ _ _ _ _ _ _ _ _ _ _ _ _ _ _ _ _).mono ?_
  rintro e w1 ⟨rfl, hb1⟩
  have hb0 : Below w.heap.size w w1 := (((Below.refl _ _).alloc (Nat.le_refl _) _).alloc (by simp) _).trans (hb1.mono (by simp; omega))
  have z0 : w1.cell? ⟨w.heap.size + 1, 0, none⟩ = some (.slice none 0 0) := by rw [hb1.cell (by simp)]; simp
  have z1 : w1.cell? ⟨w.heap.size + 1, 1, none⟩ = some (.slice none 0 0) := by rw [hb1.cell (by simp)]; simp
  have z2 : w1.cell? ⟨w.heap.size + 1, 2, none⟩ = some (.slice none 0 0) := by rw [hb1.cell (by simp)]; simp
  have z3 : w1.cell? ⟨w.heap.size + 1, 3, none⟩ = some (.slice none 0 0) := by rw [hb1.cell (by simp)]; simp
  have z4 : w1.cell? ⟨w.heap.size + 1, 4, none⟩ = some (.slice none 0 0) := by rw [hb1.cell (by simp)]; simp
  have z5 : w1.cell? ⟨w.heap.size + 1, 5, none⟩ = some (.slice none 0 0) := by rw [hb1.cell (by simp)]; simp
  have z6 : w1.cell? ⟨w.heap.size + 1, 6, none⟩ = some (.string ⟨#[]⟩) := by rw [hb1.cell (by simp)]; simp
  have z7 : w1.cell? ⟨w.heap.size + 1, 7, none⟩ = some (.int .i64 0) := by rw [hb1.cell (by simp)]; simp
  have z8 : w1.cell? ⟨w.heap.size + 1, 8, none⟩ = some (.int .i64 0) := by rw [hb1.cell (by simp)]; simp
  have z9 : w1.cell? ⟨w.heap.size + 1, 9, none⟩ = some (.slice none 0 0) := by rw [hb1.cell (by simp)]; simp
  have z10 : w1.cell? ⟨w.heap.size + 1, 10, none⟩ = some (.slice none 0 0) := by rw [hb1.cell (by simp)]; simp
  have z11 : w1.cell? ⟨w.heap.size + 1, 11, none⟩ = some (.slice none 0 0) := by rw [hb1.cell (by simp)]; simp
  have fz : ∀ o, w1.frozen? ⟨w.heap.size + 1, o, none⟩ = false := fun o => by rw [hb1.frozen (by simp)]; simp
  have hlt : w.heap.size + 1 < w1.heap.size := by have := hb1.size; simp at this; omega
  clear hb1
  go_wp2
  refine bodyPost_ret (v := .tuple #[.agg #[.slice none 0 0, .slice none 0 0, .slice none 0 0, .slice none 0 0, .slice none 0 0, .slice none 0 0, .string ⟨#[]⟩, .int .i64 0, .int .i64 0, .slice none 0 0, .slice none 0 0, .slice none 0 0], .int .i64 61]) ?_ rfl ⟨rfl, ?_⟩
  · simp [results, Tryz.results48, go_sem, z0, z1, z2, z3, z4, z5, z6, z7, z8, z9, z10, z11]
  · exact ((((((((((((hb0.setCell (p := ⟨w.heap.size + 1, 0, none⟩) (by simp) _).setCell (p := ⟨w.heap.size + 1, 1, none⟩) (by simp) _).setCell (p := ⟨w.heap.size + 1, 2, none⟩) (by simp) _).setCell (p := ⟨w.heap.size + 1, 3, none⟩) (by simp) _).setCell (p := ⟨w.heap.size + 1, 4, none⟩) (by simp) _).setCell (p := ⟨w.heap.size + 1, 5, none⟩) (by simp) _).setCell (p := ⟨w.heap.size + 1, 6, none⟩) (by simp) _).setCell (p := ⟨w.heap.size + 1, 7, none⟩) (by simp) _).setCell (p := ⟨w.heap.size + 1, 8, none⟩) (by simp) _).setCell (p := ⟨w.heap.size + 1, 9, none⟩) (by simp) _).setCell (p := ⟨w.heap.size + 1, 10, none⟩) (by simp) _).setCell (p := ⟨w.heap.size + 1, 11, none⟩) (by simp) _)
end
end Go.Proofs.YthpocgdmfphlgaaGreatDoor.SL
