/- The lengths of months. -/
import Derived.Test.YthpocgdmfphlgaaGreatDoorBase
import Derived.Lib.QuietBelow
namespace Go.Proofs.YthpocgdmfphlgaaGreatDoor.SL
open Go.RowKit

def leapB (y : Int) : Bool := decide (y % 4 = 0 ∧ y % 100 ≠ 0 ∨ y % 400 = 0)
def monthLen (m : Int) : Int := if m = 2 then 28 else if m = 4 ∨ m = 6 ∨ m = 9 ∨ m = 11 then 30 else 31
def lenOf (y m : Int) : Int := if m = 2 then (if leapB y then 29 else 28) else if m = 4 ∨ m = 6 ∨ m = 9 ∨ m = 11 then 30 else 31

set_option maxHeartbeats 400000 in
theorem leap_any (y : Int) (w : World) (h0 : 0 ≤ y) (h1 : y ≤ 100000) :
    Calls Tryz.prog 227 #[.int .i64 y] w fun e w' => e = .returned (.bool (leapB y)) ∧ w = w' := by
  by_cases a : y % 4 = 0
  · by_cases b : y % 100 = 0
    · by_cases c : y % 400 = 0
      · have hl : leapB y = true := by simp [leapB, c]
        rw [hl]; clear hl
        have ha := beq_iff_eq.2 a; have hb : (y % 100 != 0) = false := by simp [b]
        have hc := beq_iff_eq.2 c
        clear a b c
        go_enter Tryz.func227, Tryz.ntmps227
        go_wp2
        go_ret
        exact ⟨rfl, rfl⟩
      · have hl : leapB y = false := by simp [leapB, b, c]
        rw [hl]; clear hl
        have ha := beq_iff_eq.2 a; have hb : (y % 100 != 0) = false := by simp [b]
        have hc : (y % 400 == 0) = false := by simp [c]
        clear a b c
        go_enter Tryz.func227, Tryz.ntmps227
        go_wp2
        go_ret
        exact ⟨rfl, rfl⟩
    · have hl : leapB y = true := by simp [leapB, a, b]
      rw [hl]; clear hl
      have ha := beq_iff_eq.2 a; have hb : (y % 100 != 0) = true := by simp [b]
      clear a b
      go_enter Tryz.func227, Tryz.ntmps227
      go_wp2
      go_ret
      exact ⟨rfl, rfl⟩
  · have hl : leapB y = false := by
      have : ¬ y % 400 = 0 := by omega
      simp [leapB, a, this]
    rw [hl]; clear hl
    have ha : (y % 4 == 0) = false := by simp [a]
    have hc : (y % 400 == 0) = false := by simp; omega
    clear a
    go_enter Tryz.func227, Tryz.ntmps227
    go_wp2
    go_ret
    exact ⟨rfl, rfl⟩

set_option maxHeartbeats 1000000 in
theorem length_any (y m : Int) (w : World) (h0 : 0 ≤ y) (h1 : y ≤ 100000) (hm1 : 1 ≤ m) (hm2 : m ≤ 12) :
    Calls Tryz.prog 130 #[.int .i64 y, .int .i64 m] w fun e w' => e = .returned (.int .i64 (lenOf y m)) ∧ Below w.heap.size w w' := by
  by_cases h2 : m = 2
  · subst h2
    by_cases hl : leapB y = true
    · have e : lenOf y 2 = 29 := by simp [lenOf, hl]
      rw [e]; clear e
      go_enter Tryz.func130, Tryz.ntmps130
      go_wp2_with (go_at_call 227; refine (leap_any _ _ h0 h1).mono ?_; rintro e w' ⟨rfl, rfl⟩)
      go_ret
      exact ⟨rfl, (Below.refl _ _).alloc (Nat.le_refl _) _⟩
    · have hl' : leapB y = false := by simpa using hl
      have e : lenOf y 2 = 28 := by simp [lenOf, hl']
      rw [e]; clear e hl
      go_enter Tryz.func130, Tryz.ntmps130
      go_wp2_with (go_at_call 227; refine (leap_any _ _ h0 h1).mono ?_; rintro e w' ⟨rfl, rfl⟩)
      go_ret
      exact ⟨rfl, (Below.refl _ _).alloc (Nat.le_refl _) _⟩
  · obtain rfl | rfl | rfl | rfl | rfl | rfl | rfl | rfl | rfl | rfl | rfl : m = 1 ∨ m = 3 ∨ m = 4 ∨ m = 5 ∨ m = 6 ∨ m = 7 ∨ m = 8 ∨ m = 9 ∨ m = 10 ∨ m = 11 ∨ m = 12 := by omega
    all_goals
      clear h2 hm1 hm2
      go_enter Tryz.func130, Tryz.ntmps130
      go_wp2
      go_ret
      exact ⟨by simp [lenOf], (Below.refl _ _).alloc (Nat.le_refl _) _⟩
end Go.Proofs.YthpocgdmfphlgaaGreatDoor.SL
