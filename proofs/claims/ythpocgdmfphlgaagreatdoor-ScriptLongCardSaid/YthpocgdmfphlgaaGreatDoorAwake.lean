/- The short script that awake runs: its lines and look-ups. -/
import Derived.Test.YthpocgdmfphlgaaGreatDoorArgs
namespace Go.Proofs.YthpocgdmfphlgaaGreatDoor.SL
open Go.RowKit Go.Sort

theorem info53 : (Tryz.prog.info? 47).map (fun i => (i.zero, i.size, i.bytes)) = some (some .nilFunc, 1, 8) := by kernel_rfl

theorem upd (W : World) (r : Nat) (es : Array MapEntry) (clock : Nat) (hW : W.heap[r]? = some (.map es clock)) (hs : strKeys es.toList) (key : ByteArray) (hf : findEnt key es.toList 0 = none) (v : Value) :
    ∃ W', (Instr.mapUpdate 32 (.map (some r)) (.string key) v).run Tryz.prog W = .ok () W' ∧ W'.heap[r]? = some (.map (es.push { key := .string key, val := v, born := clock }) (clock + 1)) ∧ Chg (· = r) W W' := by
  refine ⟨_, run_update_new Tryz.underlying32 Tryz.underlying9 W r es clock hW hs key hf v, ?_, rfl, rfl, rfl, by simp, fun k hk hn => ?_⟩
  · simp [lt_of hW]
  · show (W.heap.setIfInBounds r _)[k]? = _
    rw [Array.getElem?_setIfInBounds_ne (fun e => hn e.symm)]

theorem Chg.cell {S : Nat → Prop} {w w' : World} (h : Chg S w w') {p : Addr} (hp : p.block < w.heap.size) (hn : ¬ S p.block) : w'.cell? p = w.cell? p := World.cell?_of_block (h.block _ hp hn)
theorem Chg.frozen {S : Nat → Prop} {w w' : World} (h : Chg S w w') {p : Addr} (hp : p.block < w.heap.size) (hn : ¬ S p.block) : w'.frozen? p = w.frozen? p := World.frozen?_of_block (h.block _ hp hn)

def tOpen : List UInt8 := [111, 112, 101, 110]
def tShow : List UInt8 := [115, 104, 111, 119]
def tLine2 : List UInt8 := [115, 104, 111, 119, 32, 97, 108, 108, 32, 50, 48, 50, 52, 45, 48, 49]
def tScript : List UInt8 := [111, 112, 101, 110, 10, 115, 104, 111, 119, 32, 97, 108, 108, 32, 50, 48, 50, 52, 45, 48, 49, 10]

theorem aw_count : Lib.countB (bs tScript) ⟨#[10]⟩ = 2 := by decide +kernel
theorem aw_split : Lib.splitB ⟨#[10]⟩ 0 2 (bs tScript) = [bs tOpen, bs tLine2, bs []] := by decide +kernel
theorem find_open (n : Nat) : findEnt (bs tOpen) (tabOf n cmds).es.toList 0 = some (19, .agg #[.slice none 0 0, .int .i64 0, .string ⟨#[]⟩, .func (.func 32) #[] #[]]) := by kernel_rfl
theorem find_show (n : Nat) : findEnt (bs tShow) (tabOf n cmds).es.toList 0 = some (22, .agg #[.slice (some ⟨n + 23, 0, none⟩) 2 2, .int .i64 0, .string ⟨#[]⟩, .func (.func 50) #[] #[.pointer (some ⟨n + 24, 0, none⟩)]]) := by kernel_rfl
theorem tab_clock (n : Nat) : (tabOf n cmds).es.size = 27 := by kernel_rfl
theorem tab_form (n : Nat) : (tabOf n cmds).rest[22]? = some (.cells #[.int .i64 0, .int .i64 4] 68 (0, 0)) := by kernel_rfl

theorem keysAre_foldl (n : Nat) : ∀ (l : List Cmd) (t : Tab) (ks : List (List UInt8)), KeysAre t ks → KeysAre (l.foldl (Tab.add n) t) (ks ++ l.map (·.key))
  | [], t, ks, h => by simpa using h
  | c :: l, t, ks, h => by
    have := keysAre_foldl n l (t.add n c) (ks ++ [c.key]) (h.add n c)
    simpa using this
theorem tab_keys (n : Nat) : strKeys (tabOf n cmds).es.toList := (keysAre_foldl n cmds _ [] KeysAre.nil).str

theorem Tab.world_rest (t : Tab) (w : World) (i : Nat) (o : Obj) (h : t.rest[i]? = some o) : (t.world w).heap[w.heap.size + 1 + i]? = some o := by
  simp only [Tab.world]
  rw [Array.getElem?_append_right (by omega), Array.getElem?_append_right (by simp; omega)]
  rw [← h]; congr 1; simp; omega

theorem cut_no (l : List UInt8) (w : World) (hw : Env w) (hl : l.length ≤ 1000) (hc : Lib.cut l [32] = (l, [], false)) : Calls Tryz.prog 9 #[.string (bs l), .string ⟨#[32]⟩] w fun e w' => e = .returned (.tuple #[.string (bs l), .string ⟨#[]⟩, .bool false]) ∧ Below w.heap.size w w' := by
  obtain ⟨m, hm⟩ := hw.maxLen
  refine (Tryz.strings_Cut (bs l) ⟨#[32]⟩ m w (by rw [bs_size]; omega) hm).mono ?_
  rintro e w' ⟨rfl, n, rfl⟩
  refine ⟨?_, below_drewN (Below.refl _ _) n⟩
  rw [show Lib.cut (bs l).data.toList (⟨#[32]⟩ : ByteArray).data.toList = (l, [], false) by simpa [bs] using hc]
  rfl
theorem cut_yes (l a r : List UInt8) (w : World) (hw : Env w) (hl : l.length ≤ 1000) (hc : Lib.cut l [32] = (a, r, true)) : Calls Tryz.prog 9 #[.string (bs l), .string ⟨#[32]⟩] w fun e w' => e = .returned (.tuple #[.string (bs a), .string (bs r), .bool true]) ∧ Below w.heap.size w w' := by
  obtain ⟨m, hm⟩ := hw.maxLen
  refine (Tryz.strings_Cut (bs l) ⟨#[32]⟩ m w (by rw [bs_size]; omega) hm).mono ?_
  rintro e w' ⟨rfl, n, rfl⟩
  refine ⟨?_, below_drewN (Below.refl _ _) n⟩
  rw [show Lib.cut (bs l).data.toList (⟨#[32]⟩ : ByteArray).data.toList = (a, r, true) by simpa [bs] using hc]
  rfl
theorem cut_open : Lib.cut tOpen [32] = (tOpen, [], false) := by decide +kernel
theorem cut_line2 : Lib.cut tLine2 [32] = (tShow, txtBoth, true) := by decide +kernel
end Go.Proofs.YthpocgdmfphlgaaGreatDoor.SL
