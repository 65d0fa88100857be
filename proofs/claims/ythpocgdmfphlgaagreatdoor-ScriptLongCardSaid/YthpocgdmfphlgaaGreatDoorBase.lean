/- What is asked of the package-level variables. -/
import Derived.Test.YthpocgdmfphlgaaGreatDoorShelf
import Derived.Test.YthpocgdmfphlgaaGreatDoorCmd2
import Derived.Deep.QuietTactic
import Derived.BigQuiet
import Derived.Lib.Hide
import Derived.WalkSmall
import Derived.Lib.SmallJoins
import Derived.Lib.AppendIntMem
import Derived.Laws.BytesString
namespace Go.Proofs.YthpocgdmfphlgaaGreatDoor.SL
open Go.RowKit

/-- What is known of the package-level variables (nine of them). -/
structure Env (w : World) : Prop where
  size : 9 ≤ w.heap.size
  maxLen : ∃ m, w.cell? ⟨0, 0, none⟩ = some (.int .i64 m)
  tab : Lib.TabIs Tryz.prog w "internal/strconv.uint64pow10" .u64 Lib.pow10Tab
  syn : ∃ ev, w.cell? ⟨5, 0, none⟩ = some ev ∧ (ev = .nilIface ∨ ∃ te pe, ev = .iface te pe)
  rng : ∃ ev, w.cell? ⟨6, 0, none⟩ = some ev ∧ (ev = .nilIface ∨ ∃ te pe, ev = .iface te pe)

theorem pow10_named : Tryz.prog.globalNamed "internal/strconv.uint64pow10" = some 4 := by kernel_rfl

theorem Env.below {w w' : World} (h : Env w) (hb : Below w.heap.size w w') : Env w' := by
  obtain ⟨h0, ⟨m, hm⟩, ht, ⟨e1, h1, k1⟩, ⟨e2, h2, k2⟩⟩ := h
  exact ⟨Nat.le_trans h0 hb.size, ⟨m, by rw [hb.cell (show 0 < _ by omega)]; exact hm⟩, var?_below hb pow10_named (by omega) ht,
    ⟨e1, by rw [hb.cell (show 5 < _ by omega)]; exact h1, k1⟩, ⟨e2, by rw [hb.cell (show 6 < _ by omega)]; exact h2, k2⟩⟩

theorem Env.pos {w : World} (h : Env w) : 0 < w.heap.size := by have := h.size; omega

theorem Tab.world_below (t : Tab) (w : World) : Below w.heap.size w (t.world w) :=
  ⟨rfl, rfl, rfl, by rw [t.world_size]; omega, fun k hk => by simp only [Tab.world]; rw [Array.getElem?_append, if_pos hk]⟩

theorem commands_below (w : World) :
    Calls Tryz.prog 7 #[] w fun e w' => e = .returned (.map (some w.heap.size)) ∧ Below w.heap.size w w' :=
  (commands_any w).mono fun e w' ⟨he, hw⟩ => ⟨he, by rw [hw]; exact Tab.world_below _ _⟩
end Go.Proofs.YthpocgdmfphlgaaGreatDoor.SL
