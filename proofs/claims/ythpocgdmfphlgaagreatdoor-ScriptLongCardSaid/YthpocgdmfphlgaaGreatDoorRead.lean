/- read on a word and on a period. -/
import Derived.Test.YthpocgdmfphlgaaGreatDoorRun1
namespace Go.Proofs.YthpocgdmfphlgaaGreatDoor.SL
open Go.RowKit Go.Sort

/-- An argument: its text and its number, the rest zero. -/
def argv (t : ByteArray) (n : Int) : Value := .agg #[.string t, .int .i64 n, .bool false, .slice none 0 0, .slice none 0 0, .int .i64 0, .int .i64 0, .int .i64 0]

set_option maxHeartbeats 1000000 in
set_option maxRecDepth 100000 in
theorem read_word (t : ByteArray) (w : World) (he : t.toList.isEmpty = false) :
    Calls Tryz.prog 43 #[.int .i64 0, .string t] w fun e w' => e = .returned (.tuple #[.agg #[.string t, .int .i64 0, .bool false, .slice none 0 0, .slice none 0 0, .int .i64 0, .int .i64 0, .int .i64 0], .bool true]) ∧ Below w.heap.size w w' := by
  go_enter Tryz.func43, Tryz.ntmps43
  go_wp2
  refine bodyPost_ret (v := .tuple #[.agg #[.string t, .int .i64 0, .bool false, .slice none 0 0, .slice none 0 0, .int .i64 0, .int .i64 0, .int .i64 0], .bool true]) ?_ rfl ⟨rfl, ?_⟩
  · simp [results, Tryz.results43, go_sem]
  · exact ((Below.refl _ _).alloc (Nat.le_refl _) _).alloc (by simp) _

set_option maxHeartbeats 2000000 in
set_option maxRecDepth 100000 in
theorem read_period_ok (t : ByteArray) (w : World) (hw : Env w) (hs : t.size ≤ 900) (hwl : ∀ x ∈ dwords (pText t), x.size ≤ 1000) (p : Int) (hp : pP t = p) (hok : dE (pText t) = 0) :
    Calls Tryz.prog 43 #[.int .i64 4, .string t] w fun e w' => e = .returned (.tuple #[.agg #[.string t, .int .i64 p, .bool false, .slice none 0 0, .slice none 0 0, .int .i64 0, .int .i64 0, .int .i64 0], .bool true]) ∧ Below w.heap.size w w' := by
  have P : ∀ w1, Below w.heap.size w w1 → Calls Tryz.prog 74 #[.string t] w1 fun e w' => e = .returned (.tuple #[.int .i64 p, .int .i64 0]) ∧ Below w1.heap.size w1 w' := fun w1 hb1 => by
    have := parsePeriod_any t w1 (hw.below hb1) hs hwl
    rw [hp, hok] at this
    exact this
  have HP := Lib.hid P
  clear P hp hok hwl
  have hb0 : Below w.heap.size w ((w.alloc (.cells #[.string t, .int .i64 0, .bool false, .slice none 0 0, .slice none 0 0, .int .i64 0, .int .i64 0, .int .i64 0] 76)).alloc (.cells #[.string t, .int .i64 0, .bool false, .slice none 0 0, .slice none 0 0, .int .i64 0, .int .i64 0, .int .i64 0] 76)) := ((Below.refl _ _).alloc (Nat.le_refl _) _).alloc (by simp) _
  have hb1' : Below w.heap.size w ((w.alloc (.cells #[.string ⟨#[]⟩, .int .i64 0, .bool false, .slice none 0 0, .slice none 0 0, .int .i64 0, .int .i64 0, .int .i64 0] 76)).alloc (.cells #[.string t, .int .i64 0, .bool false, .slice none 0 0, .slice none 0 0, .int .i64 0, .int .i64 0, .int .i64 0] 76)) := ((Below.refl _ _).alloc (Nat.le_refl _) _).alloc (by simp) _
  go_enter Tryz.func43, Tryz.ntmps43
  go_wp2_with fail
  refine (HP.out _ hb1').mono ?_
  rintro e w1 ⟨rfl, hb1⟩
  have x0 : w1.cell? ⟨w.heap.size, 0, none⟩ = some (.string ⟨#[]⟩) := by rw [hb1.cell (by simp; omega)]; simp
  have x1 : w1.cell? ⟨w.heap.size, 1, none⟩ = some (.int .i64 0) := by rw [hb1.cell (by simp; omega)]; simp
  have x2 : w1.cell? ⟨w.heap.size, 2, none⟩ = some (.bool false) := by rw [hb1.cell (by simp; omega)]; simp
  have x3 : w1.cell? ⟨w.heap.size, 3, none⟩ = some (.slice none 0 0) := by rw [hb1.cell (by simp; omega)]; simp
  have x4 : w1.cell? ⟨w.heap.size, 4, none⟩ = some (.slice none 0 0) := by rw [hb1.cell (by simp; omega)]; simp
  have x5 : w1.cell? ⟨w.heap.size, 5, none⟩ = some (.int .i64 0) := by rw [hb1.cell (by simp; omega)]; simp
  have x6 : w1.cell? ⟨w.heap.size, 6, none⟩ = some (.int .i64 0) := by rw [hb1.cell (by simp; omega)]; simp
  have x7 : w1.cell? ⟨w.heap.size, 7, none⟩ = some (.int .i64 0) := by rw [hb1.cell (by simp; omega)]; simp
  have y0 : w1.cell? ⟨w.heap.size + 1, 0, none⟩ = some (.string t) := by rw [hb1.cell (by simp)]; simp
  have y1 : w1.cell? ⟨w.heap.size + 1, 1, none⟩ = some (.int .i64 0) := by rw [hb1.cell (by simp)]; simp
  have y2 : w1.cell? ⟨w.heap.size + 1, 2, none⟩ = some (.bool false) := by rw [hb1.cell (by simp)]; simp
  have y3 : w1.cell? ⟨w.heap.size + 1, 3, none⟩ = some (.slice none 0 0) := by rw [hb1.cell (by simp)]; simp
  have y4 : w1.cell? ⟨w.heap.size + 1, 4, none⟩ = some (.slice none 0 0) := by rw [hb1.cell (by simp)]; simp
  have y5 : w1.cell? ⟨w.heap.size + 1, 5, none⟩ = some (.int .i64 0) := by rw [hb1.cell (by simp)]; simp
  have y6 : w1.cell? ⟨w.heap.size + 1, 6, none⟩ = some (.int .i64 0) := by rw [hb1.cell (by simp)]; simp
  have y7 : w1.cell? ⟨w.heap.size + 1, 7, none⟩ = some (.int .i64 0) := by rw [hb1.cell (by simp)]; simp
  have xf : ∀ o, w1.frozen? ⟨w.heap.size, o, none⟩ = false := fun o => by rw [hb1.frozen (by simp; omega)]; simp
  have yf : ∀ o, w1.frozen? ⟨w.heap.size + 1, o, none⟩ = false := fun o => by rw [hb1.frozen (by simp)]; simp
  have hbw : Below w.heap.size w w1 := hb1'.trans (hb1.mono hb1'.size)
  have hlt : w.heap.size + 1 < w1.heap.size := by have := hb1.size; simp at this; omega
  clear hb1 hb0 hb1'
  go_wp2
  refine bodyPost_ret (v := .tuple #[.agg #[.string t, .int .i64 p, .bool false, .slice none 0 0, .slice none 0 0, .int .i64 0, .int .i64 0, .int .i64 0], .bool true]) ?_ rfl ⟨rfl, ?_⟩
  · simp [results, Tryz.results43, go_sem, x0, x1, x2, x3, x4, x5, x6, x7]
  · exact (((((((((hbw.setCell (p := ⟨w.heap.size + 1, 1, none⟩) (by simp) _).setCell (p := ⟨w.heap.size, 0, none⟩) (by simp) _).setCell (p := ⟨w.heap.size, 1, none⟩) (by simp) _).setCell (p := ⟨w.heap.size, 2, none⟩) (by simp) _).setCell (p := ⟨w.heap.size, 3, none⟩) (by simp) _).setCell (p := ⟨w.heap.size, 4, none⟩) (by simp) _).setCell (p := ⟨w.heap.size, 5, none⟩) (by simp) _).setCell (p := ⟨w.heap.size, 6, none⟩) (by simp) _).setCell (p := ⟨w.heap.size, 7, none⟩) (by simp) _)
end Go.Proofs.YthpocgdmfphlgaaGreatDoor.SL
