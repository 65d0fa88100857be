/- Which dates are valid. -/
import Derived.Test.YthpocgdmfphlgaaGreatDoorCal
namespace Go.Proofs.YthpocgdmfphlgaaGreatDoor.SL
open Go.RowKit Go.Sort

def validB (y m d : Int) : Bool := decide (1900 ≤ y ∧ y ≤ 2399 ∧ 1 ≤ m ∧ m ≤ 12 ∧ 1 ≤ d ∧ d ≤ lenOf y m)

section
variable (y m d : Int) (w : World)

set_option maxHeartbeats 1000000 in
set_option maxRecDepth 100000 in
theorem validDate_full (b : Bool) (h1 : 1900 ≤ y) (h2 : y ≤ 2399) (h3 : 1 ≤ m) (h4 : m ≤ 12) (h5 : 1 ≤ d) (hb : decide (d ≤ lenOf y m) = b) :
    Calls Tryz.prog 128 #[.agg #[.int .i64 y, .int .i64 m, .int .i64 d]] w fun e w' => e = .returned (.bool b) ∧ Below w.heap.size w w' := by
  have c0 : ∀ dd os, (grow (redrawn (w.alloc (.cells #[.int .i64 y, .int .i64 m, .int .i64 d] 169)) dd) os).cell? ⟨w.heap.size, 0, none⟩ = some (.int .i64 y) := fun dd os => cell_regrown (by simp) dd os
  have c1 : ∀ dd os, (grow (redrawn (w.alloc (.cells #[.int .i64 y, .int .i64 m, .int .i64 d] 169)) dd) os).cell? ⟨w.heap.size, 1, none⟩ = some (.int .i64 m) := fun dd os => cell_regrown (by simp) dd os
  have c2 : ∀ dd os, (grow (redrawn (w.alloc (.cells #[.int .i64 y, .int .i64 m, .int .i64 d] 169)) dd) os).cell? ⟨w.heap.size, 2, none⟩ = some (.int .i64 d) := fun dd os => cell_regrown (by simp) dd os
  go_enter Tryz.func128, Tryz.ntmps128
  go_wp2
  refine wp_region_quiet_below (by kernel_rfl) (by kernel_rfl) ?_
  repeat (quiet_step ((go_at_call 130; exact Calls.regrown_of (length_any y m _ (by omega) (by omega) h3 h4))))
  refine wpQuiet_nil ?_
  intro _ hw'
  obtain ⟨⟨dq, osq⟩, hw''⟩ := hw'
  subst hw''
  go_wp2
  go_ret
  exact ⟨by rw [← hb]; rfl, ((Below.refl _ _).alloc (Nat.le_refl _) _).trans ((below_regrown _ dq osq).mono (by simp))⟩

set_option maxHeartbeats 400000 in
set_option maxRecDepth 100000 in
theorem validDate_y0 (h1 : y < 1900) :
    Calls Tryz.prog 128 #[.agg #[.int .i64 y, .int .i64 m, .int .i64 d]] w fun e w' => e = .returned (.bool false) ∧ Below w.heap.size w w' := by
  have hd : decide ((1900 : Int) ≤ y) = false := by simp; omega
  go_enter Tryz.func128, Tryz.ntmps128
  go_wp2
  go_quiet (fail)
  go_wp2
  go_ret
  exact ⟨rfl, ((Below.refl _ _).alloc (Nat.le_refl _) _).trans (below_drewN (Below.refl _ _) nq)⟩

set_option maxHeartbeats 400000 in
set_option maxRecDepth 100000 in
theorem validDate_y1 (h1 : 1900 ≤ y) (h2 : 2399 < y) :
    Calls Tryz.prog 128 #[.agg #[.int .i64 y, .int .i64 m, .int .i64 d]] w fun e w' => e = .returned (.bool false) ∧ Below w.heap.size w w' := by
  have hd : decide (y ≤ (2399 : Int)) = false := by simp; omega
  go_enter Tryz.func128, Tryz.ntmps128
  go_wp2
  go_quiet (fail)
  go_wp2
  go_ret
  exact ⟨rfl, ((Below.refl _ _).alloc (Nat.le_refl _) _).trans (below_drewN (Below.refl _ _) nq)⟩

set_option maxHeartbeats 400000 in
set_option maxRecDepth 100000 in
theorem validDate_m0 (h1 : 1900 ≤ y) (h2 : y ≤ 2399) (h3 : m < 1) :
    Calls Tryz.prog 128 #[.agg #[.int .i64 y, .int .i64 m, .int .i64 d]] w fun e w' => e = .returned (.bool false) ∧ Below w.heap.size w w' := by
  have hd : decide ((1 : Int) ≤ m) = false := by simp; omega
  go_enter Tryz.func128, Tryz.ntmps128
  go_wp2
  go_quiet (fail)
  go_wp2
  go_ret
  exact ⟨rfl, ((Below.refl _ _).alloc (Nat.le_refl _) _).trans (below_drewN (Below.refl _ _) nq)⟩

set_option maxHeartbeats 400000 in
set_option maxRecDepth 100000 in
theorem validDate_m1 (h1 : 1900 ≤ y) (h2 : y ≤ 2399) (h3 : 1 ≤ m) (h4 : 12 < m) :
    Calls Tryz.prog 128 #[.agg #[.int .i64 y, .int .i64 m, .int .i64 d]] w fun e w' => e = .returned (.bool false) ∧ Below w.heap.size w w' := by
  have hd : decide (m ≤ (12 : Int)) = false := by simp; omega
  go_enter Tryz.func128, Tryz.ntmps128
  go_wp2
  go_quiet (fail)
  go_wp2
  go_ret
  exact ⟨rfl, ((Below.refl _ _).alloc (Nat.le_refl _) _).trans (below_drewN (Below.refl _ _) nq)⟩

set_option maxHeartbeats 400000 in
set_option maxRecDepth 100000 in
theorem validDate_d0 (h1 : 1900 ≤ y) (h2 : y ≤ 2399) (h3 : 1 ≤ m) (h4 : m ≤ 12) (h5 : d < 1) :
    Calls Tryz.prog 128 #[.agg #[.int .i64 y, .int .i64 m, .int .i64 d]] w fun e w' => e = .returned (.bool false) ∧ Below w.heap.size w w' := by
  have hd : decide ((1 : Int) ≤ d) = false := by simp; omega
  go_enter Tryz.func128, Tryz.ntmps128
  go_wp2
  go_quiet (fail)
  go_wp2
  go_ret
  exact ⟨rfl, ((Below.refl _ _).alloc (Nat.le_refl _) _).trans (below_drewN (Below.refl _ _) nq)⟩

theorem validDate_any : Calls Tryz.prog 128 #[.agg #[.int .i64 y, .int .i64 m, .int .i64 d]] w fun e w' => e = .returned (.bool (validB y m d)) ∧ Below w.heap.size w w' := by
  by_cases h1 : 1900 ≤ y
  · by_cases h2 : y ≤ 2399
    · by_cases h3 : 1 ≤ m
      · by_cases h4 : m ≤ 12
        · by_cases h5 : 1 ≤ d
          · rw [show validB y m d = decide (d ≤ lenOf y m) by simp [validB, *]]
            exact validDate_full y m d w _ h1 h2 h3 h4 h5 rfl
          · rw [show validB y m d = false by simp [validB, *]]
            exact validDate_d0 y m d w h1 h2 h3 h4 (by omega)
        · rw [show validB y m d = false by simp [validB, *]]
          exact validDate_m1 y m d w h1 h2 h3 (by omega)
      · rw [show validB y m d = false by simp [validB, *]]
        exact validDate_m0 y m d w h1 h2 (by omega)
    · rw [show validB y m d = false by simp [validB, *]]
      exact validDate_y1 y m d w h1 (by omega)
  · rw [show validB y m d = false by simp [validB, *]]
    exact validDate_y0 y m d w (by omega)
end
end Go.Proofs.YthpocgdmfphlgaaGreatDoor.SL
