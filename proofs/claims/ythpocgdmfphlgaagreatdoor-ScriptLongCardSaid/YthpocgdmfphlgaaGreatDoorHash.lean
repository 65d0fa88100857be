/- Run on a line of number signs prints nothing; a text that is too long is refused. -/
import Derived.Test.YthpocgdmfphlgaaGreatDoorBuild
namespace Go.Proofs.YthpocgdmfphlgaaGreatDoor.SL
open Go.RowKit
/-- A line of '#'. -/
structure Hash (s : ByteArray) : Prop where
  size : 0 < s.size
  all : ∀ i (h : i < s.size), s[i] = 35

theorem run_long (s : ByteArray) (w : World) (hs : 65536 < s.size) (hs2 : s.size ≤ 1000000) :
    Calls Tryz.prog 5 #[.string s] w fun e w' => e = .returned (.tuple #[.string ⟨#[]⟩, .int .i64 420]) ∧ w' = w := by
  go_enter Tryz.func5, Tryz.ntmps5
  go_wp2
  go_ret2
  exact ⟨rfl, rfl⟩
set_option maxHeartbeats 1000000 in
theorem run_hash (s : ByteArray) (w : World) (hw : Env w) (hs : s.size ≤ 65536) (hh : Hash s) (hc : Lib.countB s ⟨#[10]⟩ = 0) :
    Calls Tryz.prog 5 #[.string s] w fun e w' => e = .returned (.tuple #[.string ⟨#[]⟩, .int .i64 0]) ∧ Below w.heap.size w w' := by
  have hmm := @run_makeMap Tryz.prog
  go_enter Tryz.func5, Tryz.ntmps5
  go_wp2_with (go_at_call 7; refine (commands_below w).mono ?_; rintro e w1 ⟨rfl, hb1⟩)
  have hE1 := hw.below hb1
  obtain ⟨m, hm⟩ := hE1.maxLen
  have hz := hE1.pos
  have hm2 : (w1.alloc (.map #[] 0)).cell? ⟨0, 0, none⟩ = some (.int .i64 m) := by rw [World.cell?_alloc_past _ _ _ hz]; exact hm
  go_wp2_with (go_at_call 8; refine (Tryz.strings_Split s ⟨#[10]⟩ m _ (by omega) hm2 (by decide)).mono ?_; rintro e w2 ⟨rfl, rfl⟩)
  rw [Lib.splitB_zero]
  simp only [List.map_cons, List.map_nil]
  have hc0 : ((w1.alloc (.map #[] 0)).alloc (.cells #[.string s] 9)).cell? ⟨w1.heap.size + 1, 0, none⟩ = some (.string s) := by rw [World.cell?_alloc_at _ _ _ _ (by simp)]; rfl
  have he : s.toList.isEmpty = false := by
    cases h : s.toList with
    | nil => have h1 : s.data.toList.length = 0 := by rw [← ByteArray.toList_eq, h]; rfl
             have h2 : s.size = s.data.toList.length := by rw [Array.length_toList]; rfl
             have := hh.size; omega
    | cons => rfl
  have hp := hh.size
  have h35 := hh.all 0 hp
  refine wp_loop_rounds 2 ?_
  rw [rounds_succ]
  go_wp2
  rw [rounds_succ]
  go_wp2
  refine wp_loop_rounds 1 ?_
  rw [rounds_succ]
  go_wp2_with fail
  refine (builderString_nil (w1.heap.size + 1 + 1) _ ?hc).mono ?_
  case hc => simp [go_sem]
  rintro e w2 ⟨rfl, rfl⟩
  go_wp2
  go_ret2
  exact ⟨rfl, hb1.trans (((((Below.refl _ _).alloc hb1.size _).alloc (by simp; have := hb1.size; omega) _).alloc (by simp; have := hb1.size; omega) _).drew)⟩
end Go.Proofs.YthpocgdmfphlgaaGreatDoor.SL
