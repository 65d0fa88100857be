/- The command open without codes prints error 61. -/
import Derived.Test.YthpocgdmfphlgaaGreatDoorNew
namespace Go.Proofs.YthpocgdmfphlgaaGreatDoor.SL
open Go.RowKit Go.Sort

set_option maxHeartbeats 1000000 in
set_option maxRecDepth 100000 in
theorem replace_err (B b : Nat) (cs : Array Value) (l : List UInt8) (w : World) (hw : Env w) (h : Out B b cs l w) (hBw : B ≤ w.heap.size) (n : Int) (h0 : 1 ≤ n) (h1 : n ≤ 9999) (hl : l.length ≤ 1000000000) (ws : Option Addr) (wn wc : Nat) :
    Calls Tryz.prog 49 #[.pointer (some ⟨b, 0, none⟩), .agg #[.slice none 0 0, .slice none 0 0, .slice none 0 0, .slice none 0 0, .slice none 0 0, .slice none 0 0, .string ⟨#[]⟩, .int .i64 0, .int .i64 0, .slice none 0 0, .slice none 0 0, .slice none 0 0], .int .i64 n, .slice ws wn wc] w (Printed B b cs (l ++ errLine n) w) := by
  have F : ∀ w1, Below w.heap.size w w1 → Calls Tryz.prog 51 #[.pointer (some ⟨b, 0, none⟩), .int .i64 n] w1 (Printed B b cs (l ++ errLine n) w) := fun w1 hb1 =>
    (fail_any B b cs l w1 (hw.below hb1) (h.later hb1) (Nat.le_trans hBw hb1.size) n (by omega) h1 hl).mono fun e w' hp => hp.later hb1
  have HF := Lib.hid F
  clear F
  have hne : (n != 0) = true := by rw [bne_iff_ne]; omega
  go_enter Tryz.func49, Tryz.ntmps49
  go_wp2_with fail
  refine (HF.out _ ((Below.refl _ _).alloc (Nat.le_refl _) _)).mono ?_
  rintro e w2 ⟨rfl, hpost⟩
  go_wp2
  exact bodyPost_ret (results_none rfl _ _ _) rfl ⟨rfl, hpost⟩


set_option maxHeartbeats 1000000 in
set_option maxRecDepth 100000 in
/-- 'open' of a setup without codes. -/
theorem open_nil (B b : Nat) (cs : Array Value) (l : List UInt8) (w : World) (hw : Env w) (h : Out B b cs l w) (hBw : B ≤ w.heap.size) (hl : l.length ≤ 1000000000)
    (a : Option Addr) (n : Nat) (a1 : Option Addr) (n1 c1 : Nat) (a2 : Option Addr) (n2 c2 : Nat) (a3 : Option Addr) (n3 c3 : Nat) (a4 : Option Addr) (n4 c4 : Nat) (a5 : Option Addr) (n5 c5 : Nat) (a6 : Option Addr) (n6 c6 : Nat) (plan : ByteArray) (first lag : Int)
    (k0 : cs[0]? = some (.slice a 0 n)) (k1 : cs[1]? = some (.slice a1 n1 c1)) (k2 : cs[2]? = some (.slice a2 n2 c2)) (k3 : cs[3]? = some (.slice a3 n3 c3)) (k4 : cs[4]? = some (.slice a4 n4 c4)) (k5 : cs[5]? = some (.slice a5 n5 c5)) (k6 : cs[6]? = some (.string plan)) (k7 : cs[7]? = some (.int .i64 first)) (k8 : cs[8]? = some (.int .i64 lag)) (k9 : cs[9]? = some (.slice a6 n6 c6)) (ga : Option Addr) (gn gc : Nat) :
    Calls Tryz.prog 32 #[.pointer (some ⟨b, 0, none⟩), .slice ga gn gc] w (Printed B b cs (l ++ errLine 61) w) := by
  have d0 : w.cell? ⟨b, 0, none⟩ = some (.slice a 0 n) := by rw [cell_of h.heap]; exact k0
  have d1 : w.cell? ⟨b, 1, none⟩ = some (.slice a1 n1 c1) := by rw [cell_of h.heap]; exact k1
  have d2 : w.cell? ⟨b, 2, none⟩ = some (.slice a2 n2 c2) := by rw [cell_of h.heap]; exact k2
  have d3 : w.cell? ⟨b, 3, none⟩ = some (.slice a3 n3 c3) := by rw [cell_of h.heap]; exact k3
  have d4 : w.cell? ⟨b, 4, none⟩ = some (.slice a4 n4 c4) := by rw [cell_of h.heap]; exact k4
  have d5 : w.cell? ⟨b, 5, none⟩ = some (.slice a5 n5 c5) := by rw [cell_of h.heap]; exact k5
  have d6 : w.cell? ⟨b, 6, none⟩ = some (.string plan) := by rw [cell_of h.heap]; exact k6
  have d7 : w.cell? ⟨b, 7, none⟩ = some (.int .i64 first) := by rw [cell_of h.heap]; exact k7
  have d8 : w.cell? ⟨b, 8, none⟩ = some (.int .i64 lag) := by rw [cell_of h.heap]; exact k8
  have d9 : w.cell? ⟨b, 9, none⟩ = some (.slice a6 n6 c6) := by rw [cell_of h.heap]; exact k9
  have N := new_nil a n a1 n1 c1 a2 n2 c2 a3 n3 c3 a4 n4 c4 a5 n5 c5 a6 n6 c6 plan first lag w
  have R : ∀ w1, Below w.heap.size w w1 → ∀ ws wn wc, Calls Tryz.prog 49 #[.pointer (some ⟨b, 0, none⟩), .agg #[.slice none 0 0, .slice none 0 0, .slice none 0 0, .slice none 0 0, .slice none 0 0, .slice none 0 0, .string ⟨#[]⟩, .int .i64 0, .int .i64 0, .slice none 0 0, .slice none 0 0, .slice none 0 0], .int .i64 61, .slice ws wn wc] w1 (Printed B b cs (l ++ errLine 61) w) := fun w1 hb1 ws wn wc =>
    (replace_err B b cs l w1 (hw.below hb1) (h.later hb1) (Nat.le_trans hBw hb1.size) 61 (by decide) (by decide) hl ws wn wc).mono fun e w' hp => hp.later hb1
  have HN := Lib.hid N
  have HR := Lib.hid R
  clear N R k0 k1 k2 k3 k4 k5 k6 k7 k8 k9
  go_enter Tryz.func32, Tryz.ntmps32
  go_wp2_with fail
  refine HN.out.mono ?_
  rintro e w1 ⟨rfl, hb1⟩
  go_wp2_with fail
  refine (HR.out _ (((hb1.alloc hb1.size _).alloc (by simp; have := hb1.size; omega) _)) _ _ _).mono ?_
  rintro e w2 ⟨rfl, hpost⟩
  go_wp2
  go_end0
  exact ⟨rfl, hpost⟩
end Go.Proofs.YthpocgdmfphlgaaGreatDoor.SL
