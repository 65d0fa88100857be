/- What print and fail write. -/
import Derived.Test.YthpocgdmfphlgaaGreatDoorPer
import Derived.Deep.RegionWith
namespace Go.Proofs.YthpocgdmfphlgaaGreatDoor.SL
open Go.RowKit Go.Sort

theorem Out.later {B b : Nat} {cs : Array Value} {l : List UInt8} {w w1 : World} (h : Out B b cs l w) (hb : Below w.heap.size w w1) : Out B b cs l w1 := by
  obtain ⟨v, hv, hown, hne⟩ := h.buf
  exact ⟨h.ge, by rw [hb.block _ (lt_of h.heap)]; exact h.heap, h.size, h.addr, v, hv, owns_below hown hb, hne⟩

/-- What one printed line leaves. -/
def Printed (B b : Nat) (cs : Array Value) (l : List UInt8) (w : World) (e : Ending) (w' : World) : Prop :=
  e = .returned (.tuple #[]) ∧ ∃ v, Out B b ((cs.setIfInBounds 18 (.pointer (some ⟨b, 18, none⟩))).setIfInBounds 19 v) l w' ∧ Chg (Out.may b cs) w w'

theorem Below.toChg {S : Nat → Prop} {w w' : World} (h : Below w.heap.size w w') : Chg S w w' := Chg.of_below h

set_option maxHeartbeats 2000000 in
set_option maxRecDepth 100000 in
theorem print_any (B b : Nat) (cs : Array Value) (l : List UInt8) (w : World) (h : Out B b cs l w) (hBw : B ≤ w.heap.size)
    (wb c : Nat) (xs : List ByteArray) (hx : ∀ (j : Nat) x, xs[j]? = some x → w.cell? ⟨wb, 0 + j, none⟩ = some (.string x)) (hwb : wb < w.heap.size) (hn : xs.length ≤ 1000) (hc : xs.length ≤ c)
    (hj : (Lib.join (xs.map (·.data.toList)) [32]).length ≤ 1000000000) (hl : l.length ≤ 1000000000) :
    Calls Tryz.prog 56 #[.pointer (some ⟨b, 0, none⟩), .slice (some ⟨wb, 0, none⟩) xs.length c] w (Printed B b cs (l ++ (Lib.join (xs.map (·.data.toList)) [32] ++ [10])) w) := by
  have J : ∀ w1, Below w.heap.size w w1 → Calls Tryz.prog 93 #[.slice (some ⟨wb, 0, none⟩) xs.length c, .string ⟨#[32]⟩] w1 fun e w' => e = .returned (.string (bs (Lib.join (xs.map (·.data.toList)) [32]))) ∧ Below w.heap.size w w' := fun w1 hb1 =>
    (Tryz.strings_Join wb 0 c xs ⟨#[32]⟩ w1 (fun j x hjx => by rw [hb1.cell (p := ⟨wb, 0 + j, none⟩) hwb]; exact hx j x hjx) (Nat.lt_of_lt_of_le hwb hb1.size) (by omega) hc (by simpa using Nat.le_trans hj (by decide))).mono fun e w' ⟨he, hb⟩ => ⟨he, hb1.trans (hb.mono hb1.size)⟩
  have HJ := Lib.hid J
  clear J hx
  generalize Lib.join (xs.map (·.data.toList)) [32] = t at *
  have hts : (bs t).size ≤ 1000000000 := by rw [bs_size]; exact hj
  have W : ∀ w1, Below w.heap.size w w1 → Calls Tryz.prog 92 #[.pointer (some ⟨b, 18, none⟩), .string (bs t ++ ⟨#[10]⟩)] w1 fun e w' => e = .returned (.tuple #[.int .i64 (bs t ++ ⟨#[10]⟩ : ByteArray).size, .nilIface]) ∧
      ∃ v, Out B b ((cs.setIfInBounds 18 (.pointer (some ⟨b, 18, none⟩))).setIfInBounds 19 v) (l ++ (t ++ [10])) w' ∧ Chg (Out.may b cs) w w' := fun w1 hb1 => by
    have e1 : (bs t ++ ⟨#[10]⟩ : ByteArray) = bs (t ++ [10]) := bs_append t [10]
    have := writeString B b cs l (bs t ++ ⟨#[10]⟩) w1 (h.later hb1) (by rw [e1, bs_size]; simp; omega) (Nat.le_trans hBw hb1.size)
    refine this.mono ?_
    rintro e w' ⟨he, v, ho, hch⟩
    refine ⟨he, v, ?_, (Chg.of_below hb1).trans hch⟩
    rw [e1] at ho
    simpa [bs] using ho
  have HW := Lib.hid W
  clear W
  go_enter Tryz.func56, Tryz.ntmps56
  go_wp2
  go_region_with (first | (go_at_call 93; refine (HJ.out _ ?_).mono ?_; exact Below.drew (Below.refl _ _); rintro e w1 ⟨rfl, hb1⟩) | (go_at_call 92; refine (HW.out _ ?_).mono ?_; assumption; rintro e w2 ⟨rfl, hpost⟩))
  go_end0
  exact ⟨rfl, by assumption⟩

def errLine (e : Int) : List UInt8 := [101, 114, 114, 111, 114, 32] ++ Lib.itoa e ++ [10]

theorem Printed.later {B b : Nat} {cs : Array Value} {l : List UInt8} {w w1 : World} (hb : Below w.heap.size w w1) {e : Ending} {w' : World} (h : Printed B b cs l w1 e w') : Printed B b cs l w e w' := by
  obtain ⟨he, v, ho, hc⟩ := h
  exact ⟨he, v, ho, (Chg.of_below hb).trans hc⟩

set_option maxHeartbeats 1000000 in
theorem fail_any (B b : Nat) (cs : Array Value) (l : List UInt8) (w : World) (hw : Env w) (h : Out B b cs l w) (hBw : B ≤ w.heap.size) (n : Int) (h0 : 0 ≤ n) (h1 : n ≤ 9999) (hl : l.length ≤ 1000000000) :
    Calls Tryz.prog 51 #[.pointer (some ⟨b, 0, none⟩), .int .i64 n] w (Printed B b cs (l ++ errLine n) w) := by
  have hlen : (Lib.itoa n).length ≤ 21 := Lib.itoa_length_le n (by omega) (by omega)
  have P : ∀ w1, Below w.heap.size w w1 → Calls Tryz.prog 56 #[.pointer (some ⟨b, 0, none⟩), .slice (some ⟨w1.heap.size, 0, none⟩) 2 2] (w1.alloc (.cells #[.string ⟨#[101, 114, 114, 111, 114]⟩, .string (bs (Lib.itoa n))] 9)) (Printed B b cs (l ++ errLine n) w) := fun w1 hb1 => by
    have hb2 : Below w.heap.size w (w1.alloc (.cells #[.string ⟨#[101, 114, 114, 111, 114]⟩, .string (bs (Lib.itoa n))] 9)) := hb1.alloc hb1.size _
    have e : l ++ errLine n = l ++ (Lib.join ([(⟨#[101, 114, 114, 111, 114]⟩ : ByteArray), bs (Lib.itoa n)].map (·.data.toList)) [32] ++ [10]) := by
      simp [errLine, bs, Lib.join, List.intercalate]
    rw [e]
    refine (print_any B b cs l _ (h.later hb2) (Nat.le_trans hBw hb2.size) w1.heap.size 2 [⟨#[101, 114, 114, 111, 114]⟩, bs (Lib.itoa n)] ?_ (by simp) (by simp) (by simp) ?_ hl).mono fun e w' hp => hp.later hb2
    · intro j x hj
      match j, hj with
      | 0, hj => simp at hj; subst hj; simp
      | 1, hj => simp at hj; subst hj; simp
      | j + 2, hj => simp at hj
    · have := join_len 21 [32] ([(⟨#[101, 114, 114, 111, 114]⟩ : ByteArray), bs (Lib.itoa n)].map (·.data.toList)) (by intro x hx; simp at hx; rcases hx with rfl | rfl <;> simp [bs]; exact hlen)
      simp only [List.length_map, List.length_cons, List.length_nil] at this
      omega
  have HP := Lib.hid P
  clear P
  go_enter Tryz.func51, Tryz.ntmps51
  go_wp2_with (go_at_call 54; refine (itoa_any n w hw (by omega) (by omega)).mono ?_; rintro e w1 ⟨rfl, hb1⟩)
  refine (HP.out w1 ‹_›).mono ?_
  rintro e w2 ⟨rfl, hpost⟩
  go_wp2
  go_end0
  exact ⟨rfl, hpost⟩
end Go.Proofs.YthpocgdmfphlgaaGreatDoor.SL
