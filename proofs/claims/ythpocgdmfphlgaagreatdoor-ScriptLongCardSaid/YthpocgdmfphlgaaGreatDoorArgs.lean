/- arguments of open and of show. -/
import Derived.Test.YthpocgdmfphlgaaGreatDoorRead
namespace Go.Proofs.YthpocgdmfphlgaaGreatDoor.SL
open Go.RowKit Go.Sort

theorem info92 : (Tryz.prog.info? 76).map (fun i => (i.zero, i.size, i.bytes)) = some (some (.agg #[.string ⟨#[]⟩, .int .i64 0, .bool false, .slice none 0 0, .slice none 0 0, .int .i64 0, .int .i64 0, .int .i64 0]), 8, 104) := by kernel_rfl

set_option maxHeartbeats 1000000 in
set_option maxRecDepth 100000 in
theorem args_none (f : Nat) (w : World) :
    Calls Tryz.prog 10 #[.agg #[.slice none 0 0, .int .i64 0, .string ⟨#[]⟩, .func (.func f) #[] #[]], .string ⟨#[]⟩, .bool false] w fun e w' => (∃ ga gc, e = .returned (.tuple #[.slice ga 0 gc, .bool true])) ∧ Below w.heap.size w w' := by
  obtain ⟨i0, hi, hz0, hz1, hz2⟩ := info_parts info92
  go_enter Tryz.func10, Tryz.ntmps10
  go_wp2_with (at_make; refine wpList_make_full _ rfl _ _ 43 rfl w.heap.size 76 i0 (.agg #[.string ⟨#[]⟩, .int .i64 0, .bool false, .slice none 0 0, .slice none 0 0, .int .i64 0, .int .i64 0, .int .i64 0]) 8 Tryz.underlying43 hi hz0 hz1 .i64 .i64 0 0 0 rfl rfl rfl rfl ?b2 ?b3 ?b4 ?_)
  case b2 => omega
  case b3 => unfold maxLen; omega
  case b4 => simp
  intro w1 hown hgrow
  have hb1 : Below w.heap.size w w1 := ((Below.refl _ _).alloc (Nat.le_refl _) _).grown hgrow (by simp) (fun k h => by cases h)
  have c0 : w1.cell? ⟨w.heap.size, 0, none⟩ = some (.slice none 0 0) := by
    have := hgrow.block w.heap.size (by simp) (by simp)
    rw [World.cell?_of_block (w := w.alloc (.cells #[.slice none 0 0, .int .i64 0, .string ⟨#[]⟩, .func (.func f) #[] #[]] 41)) this]; simp
  clear hown hgrow
  go_wp2
  refine wp_loop_rounds 1 ?_
  rw [rounds_succ]
  go_wp2
  go_ret2
  exact ⟨⟨_, _, rfl⟩, hb1⟩

theorem made_get (Z : Array Value) (n k : Nat) (hk : k < n) : (madeCells Z n).toList[k]? = some Z[k % Z.size]! := by
  simp [madeCells, hk]

def txtAll : List UInt8 := [97, 108, 108]
def txtPer : List UInt8 := [50, 48, 50, 52, 45, 48, 49]
def txtBoth : List UInt8 := [97, 108, 108, 32, 50, 48, 50, 52, 45, 48, 49]

theorem cut_both (w : World) (hw : Env w) : Calls Tryz.prog 9 #[.string (bs txtBoth), .string ⟨#[32]⟩] w fun e w' => e = .returned (.tuple #[.string (bs txtAll), .string (bs txtPer), .bool true]) ∧ Below w.heap.size w w' := by
  obtain ⟨m, hm⟩ := hw.maxLen
  refine (Tryz.strings_Cut (bs txtBoth) ⟨#[32]⟩ m w (by decide) hm).mono ?_
  rintro e w' ⟨rfl, n, rfl⟩
  refine ⟨?_, below_drewN (Below.refl _ _) n⟩
  rw [show Lib.cut (bs txtBoth).data.toList (⟨#[32]⟩ : ByteArray).data.toList = (txtAll, txtPer, true) by decide +kernel]
  rfl
theorem cut_per (w : World) (hw : Env w) : Calls Tryz.prog 9 #[.string (bs txtPer), .string ⟨#[32]⟩] w fun e w' => e = .returned (.tuple #[.string (bs txtPer), .string ⟨#[]⟩, .bool false]) ∧ Below w.heap.size w w' := by
  obtain ⟨m, hm⟩ := hw.maxLen
  refine (Tryz.strings_Cut (bs txtPer) ⟨#[32]⟩ m w (by decide) hm).mono ?_
  rintro e w' ⟨rfl, n, rfl⟩
  refine ⟨?_, below_drewN (Below.refl _ _) n⟩
  rw [show Lib.cut (bs txtPer).data.toList (⟨#[32]⟩ : ByteArray).data.toList = (txtPer, [], false) by decide +kernel]
  rfl
theorem per_p : pP (bs txtPer) = 1488 := by decide +kernel
theorem per_e : dE (pText (bs txtPer)) = 0 := by decide +kernel
theorem per_w : ∀ x ∈ dwords (pText (bs txtPer)), x.size ≤ 1000 := by decide +kernel
theorem all_ne : (bs txtAll).toList.isEmpty = false := by rw [ByteArray.toList_eq]; rfl

set_option maxHeartbeats 4000000 in
set_option maxRecDepth 100000 in
theorem args_show (q : Value) (fb : Nat) (w : World) (hw : Env w) (hfb : fb < w.heap.size) (k0 : w.cell? ⟨fb, 0, none⟩ = some (.int .i64 0)) (k1 : w.cell? ⟨fb, 1, none⟩ = some (.int .i64 4)) :
    Calls Tryz.prog 10 #[.agg #[.slice (some ⟨fb, 0, none⟩) 2 2, .int .i64 0, .string ⟨#[]⟩, .func (.func 50) #[] #[q]], .string (bs txtBoth), .bool true] w fun e w' => (∃ ga gn gc, e = .returned (.tuple #[.slice ga gn gc, .bool true])) ∧ Below w.heap.size w w' := by
  obtain ⟨i0, hi, hz0, hz1, hz2⟩ := info_parts info92
  have hcA : ∀ w1, Below w.heap.size w w1 → Calls Tryz.prog 9 #[.string (bs txtBoth), .string ⟨#[32]⟩] w1 fun e w' => e = .returned (.tuple #[.string (bs txtAll), .string (bs txtPer), .bool true]) ∧ Below w1.heap.size w1 w' := fun w1 hb => cut_both w1 (hw.below hb)
  have hcB : ∀ w1, Below w.heap.size w w1 → Calls Tryz.prog 9 #[.string (bs txtPer), .string ⟨#[32]⟩] w1 fun e w' => e = .returned (.tuple #[.string (bs txtPer), .string ⟨#[]⟩, .bool false]) ∧ Below w1.heap.size w1 w' := fun w1 hb => cut_per w1 (hw.below hb)
  have hrA : ∀ w1, Below w.heap.size w w1 → Calls Tryz.prog 43 #[.int .i64 0, .string (bs txtAll)] w1 fun e w' => e = .returned (.tuple #[.agg #[.string (bs txtAll), .int .i64 0, .bool false, .slice none 0 0, .slice none 0 0, .int .i64 0, .int .i64 0, .int .i64 0], .bool true]) ∧ Below w1.heap.size w1 w' := fun w1 _ => read_word _ w1 all_ne
  have hrB : ∀ w1, Below w.heap.size w w1 → Calls Tryz.prog 43 #[.int .i64 4, .string (bs txtPer)] w1 fun e w' => e = .returned (.tuple #[.agg #[.string (bs txtPer), .int .i64 1488, .bool false, .slice none 0 0, .slice none 0 0, .int .i64 0, .int .i64 0, .int .i64 0], .bool true]) ∧ Below w1.heap.size w1 w' := fun w1 hb => read_period_ok _ w1 (hw.below hb) (by decide) per_w 1488 per_p per_e
  have HcA := Lib.hid hcA; have HcB := Lib.hid hcB; have HrA := Lib.hid hrA; have HrB := Lib.hid hrB
  clear hcA hcB hrA hrB
  generalize bs txtAll = A at *
  generalize bs txtPer = Pr at *
  generalize bs txtBoth = T at *
  go_enter Tryz.func10, Tryz.ntmps10
  go_wp2_with (at_make; refine wpList_make_full _ rfl _ _ 43 rfl w.heap.size 76 i0 (.agg #[.string ⟨#[]⟩, .int .i64 0, .bool false, .slice none 0 0, .slice none 0 0, .int .i64 0, .int .i64 0, .int .i64 0]) 8 Tryz.underlying43 hi hz0 hz1 .i64 .i64 2 2 2 rfl rfl rfl rfl ?b2 ?b3 ?b4 ?_)
  case b2 => rw [hz2]; decide
  case b3 => unfold maxLen; omega
  case b4 => simp
  intro w1 hown hgrow
  have hb1 : Below w.heap.size w w1 := ((Below.refl _ _).alloc (Nat.le_refl _) _).grown hgrow (by simp) (fun k h => by cases h)
  have hg : w.heap.size + 1 = (w.alloc (.cells #[.slice (some ⟨fb, 0, none⟩) 2 2, .int .i64 0, .string ⟨#[]⟩, .func (.func 50) #[] #[q]] 41)).heap.size := by simp
  have g0 : w1.cell? ⟨w.heap.size + 1, 0, none⟩ = some (.string ⟨#[]⟩) := by rw [hown.cellAt 0 (by decide), made_get _ _ _ (by decide)]; rfl
  have g1 : w1.cell? ⟨w.heap.size + 1, 1, none⟩ = some (.int .i64 0) := by rw [hown.cellAt 1 (by decide), made_get _ _ _ (by decide)]; rfl
  have g2 : w1.cell? ⟨w.heap.size + 1, 2, none⟩ = some (.bool false) := by rw [hown.cellAt 2 (by decide), made_get _ _ _ (by decide)]; rfl
  have g3 : w1.cell? ⟨w.heap.size + 1, 3, none⟩ = some (.slice none 0 0) := by rw [hown.cellAt 3 (by decide), made_get _ _ _ (by decide)]; rfl
  have g4 : w1.cell? ⟨w.heap.size + 1, 4, none⟩ = some (.slice none 0 0) := by rw [hown.cellAt 4 (by decide), made_get _ _ _ (by decide)]; rfl
  have g5 : w1.cell? ⟨w.heap.size + 1, 5, none⟩ = some (.int .i64 0) := by rw [hown.cellAt 5 (by decide), made_get _ _ _ (by decide)]; rfl
  have g6 : w1.cell? ⟨w.heap.size + 1, 6, none⟩ = some (.int .i64 0) := by rw [hown.cellAt 6 (by decide), made_get _ _ _ (by decide)]; rfl
  have g7 : w1.cell? ⟨w.heap.size + 1, 7, none⟩ = some (.int .i64 0) := by rw [hown.cellAt 7 (by decide), made_get _ _ _ (by decide)]; rfl
  have g8 : w1.cell? ⟨w.heap.size + 1, 8, none⟩ = some (.string ⟨#[]⟩) := by rw [hown.cellAt 8 (by decide), made_get _ _ _ (by decide)]; rfl
  have g9 : w1.cell? ⟨w.heap.size + 1, 9, none⟩ = some (.int .i64 0) := by rw [hown.cellAt 9 (by decide), made_get _ _ _ (by decide)]; rfl
  have g10 : w1.cell? ⟨w.heap.size + 1, 10, none⟩ = some (.bool false) := by rw [hown.cellAt 10 (by decide), made_get _ _ _ (by decide)]; rfl
  have g11 : w1.cell? ⟨w.heap.size + 1, 11, none⟩ = some (.slice none 0 0) := by rw [hown.cellAt 11 (by decide), made_get _ _ _ (by decide)]; rfl
  have g12 : w1.cell? ⟨w.heap.size + 1, 12, none⟩ = some (.slice none 0 0) := by rw [hown.cellAt 12 (by decide), made_get _ _ _ (by decide)]; rfl
  have g13 : w1.cell? ⟨w.heap.size + 1, 13, none⟩ = some (.int .i64 0) := by rw [hown.cellAt 13 (by decide), made_get _ _ _ (by decide)]; rfl
  have g14 : w1.cell? ⟨w.heap.size + 1, 14, none⟩ = some (.int .i64 0) := by rw [hown.cellAt 14 (by decide), made_get _ _ _ (by decide)]; rfl
  have g15 : w1.cell? ⟨w.heap.size + 1, 15, none⟩ = some (.int .i64 0) := by rw [hown.cellAt 15 (by decide), made_get _ _ _ (by decide)]; rfl
  have fz : ∀ o, w1.frozen? ⟨w.heap.size + 1, o, none⟩ = false := fun o => hown.frozenAt o
  have hgl : w.heap.size + 1 < w1.heap.size := block_lt_of_cell g0
  have c0 : w1.cell? ⟨w.heap.size, 0, none⟩ = some (.slice (some ⟨fb, 0, none⟩) 2 2) := by
    have := hgrow.block w.heap.size (by simp) (by simp)
    rw [World.cell?_of_block (w := w.alloc (.cells #[.slice (some ⟨fb, 0, none⟩) 2 2, .int .i64 0, .string ⟨#[]⟩, .func (.func 50) #[] #[q]] 41)) this]; simp
  have e0 : w1.cell? ⟨fb, 0, none⟩ = some (.int .i64 0) := by rw [hb1.cell hfb]; exact k0
  have e1 : w1.cell? ⟨fb, 1, none⟩ = some (.int .i64 4) := by rw [hb1.cell hfb]; exact k1
  clear hown hgrow k0 k1
  clear hg
  go_wp2
  refine wp_loop_rounds 3 ?_
  rw [rounds_succ]
  go_wp2_with fail
  refine (HcA.out _ hb1).mono ?_
  rintro e w2 ⟨rfl, hb2⟩
  have hbw2 : Below w.heap.size w w2 := hb1.trans (hb2.mono hb1.size)
  go_wp2_with fail
  refine (HrA.out _ hbw2).mono ?_
  rintro e w3 ⟨rfl, hb3⟩
  have hbw3 : Below w.heap.size w w3 := hbw2.trans (hb3.mono hbw2.size)
  have h13 : Below w1.heap.size w1 w3 := hb2.trans (hb3.mono hb2.size)
  have p0 : w3.cell? ⟨w.heap.size + 1, 0, none⟩ = some (.string ⟨#[]⟩) := by rw [h13.cell hgl]; exact g0
  have p1 : w3.cell? ⟨w.heap.size + 1, 1, none⟩ = some (.int .i64 0) := by rw [h13.cell hgl]; exact g1
  have p2 : w3.cell? ⟨w.heap.size + 1, 2, none⟩ = some (.bool false) := by rw [h13.cell hgl]; exact g2
  have p3 : w3.cell? ⟨w.heap.size + 1, 3, none⟩ = some (.slice none 0 0) := by rw [h13.cell hgl]; exact g3
  have p4 : w3.cell? ⟨w.heap.size + 1, 4, none⟩ = some (.slice none 0 0) := by rw [h13.cell hgl]; exact g4
  have p5 : w3.cell? ⟨w.heap.size + 1, 5, none⟩ = some (.int .i64 0) := by rw [h13.cell hgl]; exact g5
  have p6 : w3.cell? ⟨w.heap.size + 1, 6, none⟩ = some (.int .i64 0) := by rw [h13.cell hgl]; exact g6
  have p7 : w3.cell? ⟨w.heap.size + 1, 7, none⟩ = some (.int .i64 0) := by rw [h13.cell hgl]; exact g7
  have p8 : w3.cell? ⟨w.heap.size + 1, 8, none⟩ = some (.string ⟨#[]⟩) := by rw [h13.cell hgl]; exact g8
  have p9 : w3.cell? ⟨w.heap.size + 1, 9, none⟩ = some (.int .i64 0) := by rw [h13.cell hgl]; exact g9
  have p10 : w3.cell? ⟨w.heap.size + 1, 10, none⟩ = some (.bool false) := by rw [h13.cell hgl]; exact g10
  have p11 : w3.cell? ⟨w.heap.size + 1, 11, none⟩ = some (.slice none 0 0) := by rw [h13.cell hgl]; exact g11
  have p12 : w3.cell? ⟨w.heap.size + 1, 12, none⟩ = some (.slice none 0 0) := by rw [h13.cell hgl]; exact g12
  have p13 : w3.cell? ⟨w.heap.size + 1, 13, none⟩ = some (.int .i64 0) := by rw [h13.cell hgl]; exact g13
  have p14 : w3.cell? ⟨w.heap.size + 1, 14, none⟩ = some (.int .i64 0) := by rw [h13.cell hgl]; exact g14
  have p15 : w3.cell? ⟨w.heap.size + 1, 15, none⟩ = some (.int .i64 0) := by rw [h13.cell hgl]; exact g15
  have pf : ∀ o, w3.frozen? ⟨w.heap.size + 1, o, none⟩ = false := fun o => by rw [h13.frozen hgl]; exact fz o
  have q0 : w3.cell? ⟨w.heap.size, 0, none⟩ = some (.slice (some ⟨fb, 0, none⟩) 2 2) := by rw [h13.cell (show w.heap.size < _ by omega)]; exact c0
  have q1 : w3.cell? ⟨fb, 1, none⟩ = some (.int .i64 4) := by rw [hbw3.cell hfb, ← hb1.cell (p := ⟨fb, 1, none⟩) hfb]; exact e1
  have hbw4 : Below w.heap.size w ((((((((w3.setCell ⟨w.heap.size + 1, 0, none⟩ (.string A)).setCell ⟨w.heap.size + 1, 1, none⟩ (.int .i64 0)).setCell ⟨w.heap.size + 1, 2, none⟩ (.bool false)).setCell ⟨w.heap.size + 1, 3, none⟩ (.slice none 0 0)).setCell ⟨w.heap.size + 1, 4, none⟩ (.slice none 0 0)).setCell ⟨w.heap.size + 1, 5, none⟩ (.int .i64 0)).setCell ⟨w.heap.size + 1, 6, none⟩ (.int .i64 0)).setCell ⟨w.heap.size + 1, 7, none⟩ (.int .i64 0)) := ((((((((hbw3.setCell (p := ⟨w.heap.size + 1, 0, none⟩) (by simp) _).setCell (p := ⟨w.heap.size + 1, 1, none⟩) (by simp) _).setCell (p := ⟨w.heap.size + 1, 2, none⟩) (by simp) _).setCell (p := ⟨w.heap.size + 1, 3, none⟩) (by simp) _).setCell (p := ⟨w.heap.size + 1, 4, none⟩) (by simp) _).setCell (p := ⟨w.heap.size + 1, 5, none⟩) (by simp) _).setCell (p := ⟨w.heap.size + 1, 6, none⟩) (by simp) _).setCell (p := ⟨w.heap.size + 1, 7, none⟩) (by simp) _)
  have hgl3 : w.heap.size + 1 < w3.heap.size := block_lt_of_cell p0
  clear g0 g1 g2 g3 g4 g5 g6 g7 g8 g9 g10 g11 g12 g13 g14 g15 fz c0 e0 e1 hgl
  go_wp2
  rw [rounds_succ]
  go_wp2_with fail
  refine (HcB.out _ hbw4).mono ?_
  rintro e w5 ⟨rfl, hb5⟩
  have hbw5 : Below w.heap.size w w5 := hbw4.trans (hb5.mono hbw4.size)
  have r8 : w5.cell? ⟨w.heap.size + 1, 8, none⟩ = some (.string ⟨#[]⟩) := by rw [hb5.cell (by simp; exact hgl3)]; simp [go_sem, p8]
  have r9 : w5.cell? ⟨w.heap.size + 1, 9, none⟩ = some (.int .i64 0) := by rw [hb5.cell (by simp; exact hgl3)]; simp [go_sem, p9]
  have r10 : w5.cell? ⟨w.heap.size + 1, 10, none⟩ = some (.bool false) := by rw [hb5.cell (by simp; exact hgl3)]; simp [go_sem, p10]
  have r11 : w5.cell? ⟨w.heap.size + 1, 11, none⟩ = some (.slice none 0 0) := by rw [hb5.cell (by simp; exact hgl3)]; simp [go_sem, p11]
  have r12 : w5.cell? ⟨w.heap.size + 1, 12, none⟩ = some (.slice none 0 0) := by rw [hb5.cell (by simp; exact hgl3)]; simp [go_sem, p12]
  have r13 : w5.cell? ⟨w.heap.size + 1, 13, none⟩ = some (.int .i64 0) := by rw [hb5.cell (by simp; exact hgl3)]; simp [go_sem, p13]
  have r14 : w5.cell? ⟨w.heap.size + 1, 14, none⟩ = some (.int .i64 0) := by rw [hb5.cell (by simp; exact hgl3)]; simp [go_sem, p14]
  have r15 : w5.cell? ⟨w.heap.size + 1, 15, none⟩ = some (.int .i64 0) := by rw [hb5.cell (by simp; exact hgl3)]; simp [go_sem, p15]
  have rf : ∀ o, w5.frozen? ⟨w.heap.size + 1, o, none⟩ = false := fun o => by rw [hb5.frozen (by simp; exact hgl3)]; simp [go_sem, pf]
  have hgl5 : w.heap.size + 1 < w5.heap.size := block_lt_of_cell r8
  go_wp2_with fail
  refine (HrB.out _ hbw5).mono ?_
  rintro e w6 ⟨rfl, hb6⟩
  have hbw6 : Below w.heap.size w w6 := hbw5.trans (hb6.mono hbw5.size)
  have s8 : w6.cell? ⟨w.heap.size + 1, 8, none⟩ = some (.string ⟨#[]⟩) := by rw [hb6.cell hgl5]; exact r8
  have s9 : w6.cell? ⟨w.heap.size + 1, 9, none⟩ = some (.int .i64 0) := by rw [hb6.cell hgl5]; exact r9
  have s10 : w6.cell? ⟨w.heap.size + 1, 10, none⟩ = some (.bool false) := by rw [hb6.cell hgl5]; exact r10
  have s11 : w6.cell? ⟨w.heap.size + 1, 11, none⟩ = some (.slice none 0 0) := by rw [hb6.cell hgl5]; exact r11
  have s12 : w6.cell? ⟨w.heap.size + 1, 12, none⟩ = some (.slice none 0 0) := by rw [hb6.cell hgl5]; exact r12
  have s13 : w6.cell? ⟨w.heap.size + 1, 13, none⟩ = some (.int .i64 0) := by rw [hb6.cell hgl5]; exact r13
  have s14 : w6.cell? ⟨w.heap.size + 1, 14, none⟩ = some (.int .i64 0) := by rw [hb6.cell hgl5]; exact r14
  have s15 : w6.cell? ⟨w.heap.size + 1, 15, none⟩ = some (.int .i64 0) := by rw [hb6.cell hgl5]; exact r15
  have sf : ∀ o, w6.frozen? ⟨w.heap.size + 1, o, none⟩ = false := fun o => by rw [hb6.frozen hgl5]; exact rf o
  go_wp2
  rw [rounds_succ]
  go_wp2
  go_ret2
  exact ⟨⟨_, _, _, rfl⟩, ((((((((hbw6.setCell (p := ⟨w.heap.size + 1, 8, none⟩) (by simp) _).setCell (p := ⟨w.heap.size + 1, 9, none⟩) (by simp) _).setCell (p := ⟨w.heap.size + 1, 10, none⟩) (by simp) _).setCell (p := ⟨w.heap.size + 1, 11, none⟩) (by simp) _).setCell (p := ⟨w.heap.size + 1, 12, none⟩) (by simp) _).setCell (p := ⟨w.heap.size + 1, 13, none⟩) (by simp) _).setCell (p := ⟨w.heap.size + 1, 14, none⟩) (by simp) _).setCell (p := ⟨w.heap.size + 1, 15, none⟩) (by simp) _)⟩
end Go.Proofs.YthpocgdmfphlgaaGreatDoor.SL
