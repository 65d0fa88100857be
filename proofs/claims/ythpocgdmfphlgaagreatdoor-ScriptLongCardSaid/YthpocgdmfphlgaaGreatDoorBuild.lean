/- strings.Builder inside a larger struct: copyCheck, WriteString, String. -/
import Derived.Test.YthpocgdmfphlgaaGreatDoorBase
namespace Go.Proofs.YthpocgdmfphlgaaGreatDoor.SL
open Go.RowKit

/-- Only blocks of S may have turned; the streams are as they were; no block has gone. -/
structure Chg (S : Nat → Prop) (w w' : World) : Prop where
  os : w'.os = w.os
  tape : w'.tape = w.tape
  output : w'.output = w.output
  size : w.heap.size ≤ w'.heap.size
  block : ∀ k, k < w.heap.size → ¬ S k → w'.heap[k]? = w.heap[k]?

theorem Chg.refl (S : Nat → Prop) (w : World) : Chg S w w := ⟨rfl, rfl, rfl, Nat.le_refl _, fun _ _ _ => rfl⟩
theorem Chg.trans {S : Nat → Prop} {a b c : World} (h : Chg S a b) (k : Chg S b c) : Chg S a c :=
  ⟨k.os.trans h.os, k.tape.trans h.tape, k.output.trans h.output, Nat.le_trans h.size k.size, fun i hi hn => (k.block i (Nat.lt_of_lt_of_le hi h.size) hn).trans (h.block i hi hn)⟩
theorem Chg.mono {S T : Nat → Prop} {w w' : World} (h : Chg S w w') (hst : ∀ k, S k → T k) : Chg T w w' :=
  ⟨h.os, h.tape, h.output, h.size, fun k hk hn => h.block k hk (fun hs => hn (hst k hs))⟩
theorem Chg.of_below {S : Nat → Prop} {w w' : World} (h : Below w.heap.size w w') : Chg S w w' :=
  ⟨h.os, h.tape, h.output, h.size, fun k hk _ => h.block k hk⟩
theorem Chg.below {S : Nat → Prop} {B : Nat} {w w' : World} (h : Chg S w w') (hB : B ≤ w.heap.size) (hS : ∀ k, S k → B ≤ k) : Below B w w' :=
  ⟨h.os, h.tape, h.output, h.size, fun k hk => h.block k (by omega) (fun hs => by have := hS k hs; omega)⟩
theorem Chg.of_grown {S : Nat → Prop} {w w' : World} {row : Option Nat} (h : w.grownBy w' row) (hr : ∀ k, row = some k → S k) : Chg S w w' :=
  ⟨h.os, h.tape, h.output, h.size, fun k hk hn => h.block k hk (fun e => hn (hr k e.symm))⟩
theorem Chg.setCell {S : Nat → Prop} (w : World) (a : Addr) (v : Value) (ha : S a.block) : Chg S w (w.setCell a v) :=
  ⟨rfl, rfl, rfl, by simp [World.setCell], fun k _ hn => Below.heap_setCell _ _ _ _ (fun e => hn (e ▸ ha))⟩
theorem Chg.drew {S : Nat → Prop} (w : World) : Chg S w w.drew := ⟨rfl, rfl, rfl, Nat.le_refl _, fun _ _ _ => rfl⟩
theorem Chg.freeze {S : Nat → Prop} (w : World) (a : Addr) (n : Nat) (ha : S a.block) : Chg S w (w.freeze a n) := by
  unfold World.freeze
  split
  · exact Chg.refl S w
  · refine ⟨rfl, rfl, rfl, by simp, fun k _ hn => ?_⟩
    show (w.heap.modify a.block _)[k]? = w.heap[k]?
    rw [Array.getElem?_modify, if_neg (fun (e : a.block = k) => hn (e ▸ ha))]

theorem info5 : (Tryz.prog.info? 5).map (fun i => (i.zero, i.size, i.bytes)) = some (some (.int .u8 0), 1, 1) := by kernel_rfl
theorem info69 : (Tryz.prog.info? 64).map (fun i => i.size) = some 2 := by kernel_rfl
theorem lies18 : liesAt Tryz.prog Tryz.prog.depth 66 (20 / Tryz.prog.cellsOf 66) 18 64 1 = true := by kernel_rfl

theorem cell_of {w : World} {b : Nat} {cs : Array Value} {T : TypeId} (h : w.heap[b]? = some (.cells cs T (0, 0))) (o : Nat) : w.cell? ⟨b, o, none⟩ = cs[o]? := by
  simp [World.cell?, h]
theorem free_of {w : World} {b : Nat} {cs : Array Value} {T : TypeId} (h : w.heap[b]? = some (.cells cs T (0, 0))) (o : Nat) : w.frozen? ⟨b, o, none⟩ = false := by
  simp [World.frozen?, h]
theorem set_of {w : World} {b : Nat} {cs : Array Value} {T : TypeId} (h : w.heap[b]? = some (.cells cs T (0, 0))) (o : Nat) (v : Value) :
    (w.setCell ⟨b, o, none⟩ v).heap[b]? = some (.cells (cs.setIfInBounds o v) T (0, 0)) := by
  simp [World.setCell, Array.getElem?_modify, h]
theorem lt_of {w : World} {b : Nat} {o : Obj} (h : w.heap[b]? = some o) : b < w.heap.size := by
  rcases Nat.lt_or_ge b w.heap.size with h' | h'
  · exact h'
  · simp [Array.getElem?_eq_none h'] at h

set_option maxHeartbeats 400000 in
set_option maxRecDepth 100000 in
theorem copyCheck_used (b : Nat) (w : World) (h0 : w.cell? ⟨b, 18, none⟩ = some (.pointer (some ⟨b, 18, none⟩))) :
    Calls Tryz.prog 183 #[.pointer (some ⟨b, 18, none⟩)] w fun e w' => e = .returned (.tuple #[]) ∧ w' = w := by
  obtain ⟨j, hj, _⟩ := Option.map_eq_some_iff.1 info69
  go_enter Tryz.func183, Tryz.ntmps183
  go_wp2
  rw [Lib.run_neq_ptr_same w _ Tryz.underlying62 hj]
  go_wp2
  go_end0
  exact ⟨rfl, rfl⟩

set_option maxHeartbeats 400000 in
set_option maxRecDepth 100000 in
theorem copyCheck_fresh (b : Nat) (w : World) (h0 : w.cell? ⟨b, 18, none⟩ = some (.pointer none)) (hsh : w.shape? b = some (66, 20)) (hfz : w.frozen? ⟨b, 18, none⟩ = false) :
    Calls Tryz.prog 183 #[.pointer (some ⟨b, 18, none⟩)] w fun e w' => e = .returned (.tuple #[]) ∧ w' = w.setCell ⟨b, 18, none⟩ (.pointer (some ⟨b, 18, none⟩)) := by
  obtain ⟨j, hj, hjs⟩ := Option.map_eq_some_iff.1 info69
  go_enter Tryz.func183, Tryz.ntmps183
  go_wp2
  rw [Lib.run_to_unsafe w ⟨b, 18, none⟩ Tryz.underlying62 Tryz.underlying393 hj (by rw [hjs]; decide) hsh (by show 18 < 20; decide)]
  simp only [Result.andThen]
  rw [Oper.upon_value]
  go_wp2
  rw [run_callFunc_extern Tryz.func282 (by kernel_rfl) (by kernel_rfl) (by kernel_rfl) (e := Extern.AbiNoEscape.same) (by kernel_rfl)]
  rw [Lib.run_noEscape]
  simp only [Result.andThen]
  rw [Oper.upon_value]
  go_wp2
  rw [Lib.run_from_unsafe w ⟨b, 18, none⟩ Tryz.underlying393 Tryz.underlying62 hj hsh lies18]
  simp only [Result.andThen]
  rw [Oper.upon_value]
  go_wp2
  go_end0
  exact ⟨rfl, rfl⟩

/-- The builder inside the state's block b: its two cells stand at 18 and 19; what it holds is the call's own, from block B on. -/
structure Out (B b : Nat) (cs : Array Value) (l : List UInt8) (w : World) : Prop where
  ge : B ≤ b
  heap : w.heap[b]? = some (.cells cs 66 (0, 0))
  size : cs.size = 20
  addr : cs[18]? = some (.pointer none) ∨ cs[18]? = some (.pointer (some ⟨b, 18, none⟩))
  buf : ∃ v, cs[19]? = some v ∧ w.ownsRow B 5 1 v l.length (Lib.byteCells l) ∧ v.ownBlock ≠ some b

/-- The blocks that a write to the builder may turn. -/
def Out.may (b : Nat) (cs : Array Value) (k : Nat) : Prop := k = b ∨ ∃ v, cs[19]? = some v ∧ v.ownBlock = some k

theorem copyCheck_any {B b : Nat} {cs : Array Value} {l : List UInt8} {w : World} (h : Out B b cs l w) :
    Calls Tryz.prog 183 #[.pointer (some ⟨b, 18, none⟩)] w fun e w' => e = .returned (.tuple #[]) ∧
      Out B b (cs.setIfInBounds 18 (.pointer (some ⟨b, 18, none⟩))) l w' ∧ Chg (· = b) w w' := by
  rcases h.addr with ha | ha
  · refine (copyCheck_fresh b w (by rw [cell_of h.heap]; exact ha) (by simp [World.shape?, h.heap, h.size]) (free_of h.heap 18)).mono ?_
    rintro e w' ⟨rfl, rfl⟩
    refine ⟨rfl, ⟨h.ge, set_of h.heap 18 _, by simp [h.size], .inr (by simp [h.size]), ?_⟩, Chg.setCell w _ _ rfl⟩
    obtain ⟨v, hv, hown, hne⟩ := h.buf
    refine ⟨v, by rw [Array.getElem?_setIfInBounds_ne (by decide)]; exact hv, ?_, hne⟩
    obtain ⟨h1, h2⟩ := hown
    refine ⟨h1, ?_⟩
    rcases h2 with h2 | ⟨g, cap, cur, rfl, hg, hh, r⟩
    · exact .inl h2
    · exact .inr ⟨g, cap, cur, rfl, hg, by rw [Below.heap_setCell _ _ _ _ (fun e => hne (by rw [e]; rfl))]; exact hh, r⟩
  · refine (copyCheck_used b w (by rw [cell_of h.heap]; exact ha)).mono ?_
    rintro e w' ⟨rfl, rfl⟩
    have hid : cs.setIfInBounds 18 (.pointer (some ⟨b, 18, none⟩)) = cs := by
      apply Array.ext_getElem?
      intro i
      rw [Array.getElem?_setIfInBounds]
      split
      · rename_i e; subst e; rw [if_pos (by rw [h.size]; decide)]; exact ha.symm
      · rfl
    rw [hid]
    exact ⟨rfl, h, Chg.refl _ _⟩

set_option maxHeartbeats 1000000 in
set_option maxRecDepth 100000 in
/-- (*strings.Builder).WriteString on the state's builder. -/
theorem writeString (B b : Nat) (cs : Array Value) (l : List UInt8) (s : ByteArray) (w : World) (h : Out B b cs l w) (hlen : l.length + s.size ≤ 140737488355328) (hBw : B ≤ w.heap.size) :
    Calls Tryz.prog 92 #[.pointer (some ⟨b, 18, none⟩), .string s] w fun e w' => e = .returned (.tuple #[.int .i64 s.size, .nilIface]) ∧
      ∃ v, Out B b ((cs.setIfInBounds 18 (.pointer (some ⟨b, 18, none⟩))).setIfInBounds 19 v) (l ++ s.data.toList) w' ∧ Chg (Out.may b cs) w w' := by
  obtain ⟨i0, hi, hz0, hz1, hz2⟩ := info_parts info5
  go_enter Tryz.func92, Tryz.ntmps92
  go_wp2_with (go_at_call 183; refine (copyCheck_any h).mono ?_)
  rintro e w1 ⟨rfl, h1, hb1⟩
  obtain ⟨v, hv, hown, hne⟩ := h1.buf
  have hv0 : cs[19]? = some v := by rw [Array.getElem?_setIfInBounds_ne (by decide)] at hv; exact hv
  have c1 : w1.cell? ⟨b, 19, none⟩ = some v := by rw [cell_of h1.heap]; exact hv
  have hsz := hb1.size
  clear hv
  go_wp2_with (at_builtin; refine Lib.wpList_append_own_string _ rfl _ _ 23 9 rfl B 5 i0 Tryz.underlying23 Tryz.underlying9 hi hz0 hz1 hz2 _ _ _ rfl hown s rfl ?c3 ?c4 ?c5 ?_)
  case c3 => unfold maxLen; omega
  case c4 => omega
  case c5 => omega
  intro v' w2 hown' hgrow _
  have hlt : b < w1.heap.size := lt_of h1.heap
  have hb2 : w2.heap[b]? = some (.cells (cs.setIfInBounds 18 (.pointer (some ⟨b, 18, none⟩))) 66 (0, 0)) := by
    rw [hgrow.block b hlt (fun e => hne e.symm)]
    exact h1.heap
  have d1 : w2.cell? ⟨b, 19, none⟩ = some v := by rw [cell_of hb2, Array.getElem?_setIfInBounds_ne (by decide)]; exact hv0
  have f1 : w2.frozen? ⟨b, 19, none⟩ = false := free_of hb2 19
  obtain ⟨ao, n', cap, rfl⟩ : ∃ ao n' cap, v' = .slice ao n' cap := by
    rcases hown'.2 with ⟨hv, _⟩ | ⟨g, cap, cur, hv, _⟩
    · exact ⟨_, _, _, hv⟩
    · exact ⟨_, _, _, hv⟩
  go_wp2
  go_ret2
  have hne' : (Value.slice ao n' cap).ownBlock ≠ some b := by
    intro e
    rcases hown'.2 with ⟨hv, _⟩ | ⟨g, cap, cur, hv, _, hh, _⟩
    · rw [hv] at e; cases e
    · rw [hv] at e
      have : g = b := by simpa [Value.ownBlock] using e
      rw [this, hb2] at hh
      simp at hh
  refine ⟨rfl, .slice ao n' cap, ⟨h.ge, set_of hb2 19 _, by simp [h.size], .inr (by rw [Array.getElem?_setIfInBounds_ne (by decide)]; simp [h.size]), .slice ao n' cap, by simp [h.size], ?_, hne'⟩, ?_⟩
  · have hown2 : w2.ownsRow B 5 1 (.slice ao n' cap) (l ++ s.data.toList).length (Lib.byteCells (l ++ s.data.toList)) := by
      have e1 : (l ++ s.data.toList).length = l.length + s.size := by rw [List.length_append, Array.length_toList]; rfl
      have e2 : Lib.byteCells (l ++ s.data.toList) = Lib.byteCells l ++ Lib.strCells s := by unfold Lib.byteCells Lib.strCells; rw [List.map_append]
      rw [e1, e2]; exact hown'
    obtain ⟨g1, g2⟩ := hown2
    refine ⟨g1, ?_⟩
    rcases g2 with g2 | ⟨g, cp, cur, hv, hg, hh, r⟩
    · exact .inl g2
    · exact .inr ⟨g, cp, cur, hv, hg, by rw [Below.heap_setCell _ _ _ _ (fun e => hne' (by rw [hv, e]; rfl))]; exact hh, r⟩
  · refine ((hb1.mono (fun k hk => .inl hk)).trans (Chg.of_grown hgrow (fun k hk => .inr ⟨v, hv0, hk⟩))).trans (Chg.setCell _ _ _ (.inl rfl))

theorem lies_byte : Tryz.prog.cellsOf 5 = 1 := by kernel_rfl

set_option maxHeartbeats 1000000 in
set_option maxRecDepth 100000 in
/-- (*strings.Builder).String on the state's builder: it holds no byte, its buffer is nil. -/
theorem builderString_nil (b : Nat) (w : World) (hc : w.cell? ⟨b, 19, none⟩ = some (.slice none 0 0)) :
    Calls Tryz.prog 12 #[.pointer (some ⟨b, 18, none⟩)] w fun e w' => e = .returned (.string ⟨#[]⟩) ∧ w' = w.drew := by
  have hUS : ∀ W q, (Builtin.unsafeString_ #[82, 3] 9 #[.pointer q, .int .i64 0]).run Tryz.prog W = .ok (.string .empty) W := fun W q => Lib.run_unsafeString_none W _ _ _ q
  have c1 : w.drew.cell? ⟨b, 19, none⟩ = some (.slice none 0 0) := hc
  have hSD : (Builtin.unsafeSliceData_ #[23] 82 #[.slice none 0 0]).run Tryz.prog w.drew = .ok (.pointer none) w.drew := rfl
  go_enter Tryz.func12, Tryz.ntmps12
  go_wp2
  go_region
  all_goals (go_wp2; go_ret; exact ⟨rfl, rfl⟩)

set_option maxHeartbeats 1000000 in
set_option maxRecDepth 100000 in
/-- .. and where it holds bytes. -/
theorem builderString (B b : Nat) (cs : Array Value) (l : List UInt8) (w : World) (h : Out B b cs l w) (h0 : l ≠ []) :
    Calls Tryz.prog 12 #[.pointer (some ⟨b, 18, none⟩)] w fun e w' => e = .returned (.string ⟨l.toArray⟩) ∧ Below B w w' := by
  obtain ⟨v, hv, hown, hne⟩ := h.buf
  have hl0 : l.length ≠ 0 := by simpa using h0
  obtain ⟨g, cap, cur, rfl, hbg, hg, hnc, hcm, hcs, htake⟩ : ∃ g cap cur, v = .slice (some ⟨g, 0, none⟩) l.length cap ∧ B ≤ g ∧ w.heap[g]? = some (.cells cur 5 (0, 0)) ∧ l.length ≤ cap ∧ cap ≤ maxLen ∧ cur.size = cap * 1 ∧ cur.toList.take (l.length * 1) = Lib.byteCells l := by
    rcases hown.2 with ⟨_, hz⟩ | ⟨g, cap, cur, hv, r⟩
    · exact absurd hz hl0
    · exact ⟨g, cap, cur, hv, r⟩
  have c1 : w.drew.cell? ⟨b, 19, none⟩ = some (.slice (some ⟨g, 0, none⟩) l.length cap) := by
    have : w.cell? ⟨b, 19, none⟩ = some (.slice (some ⟨g, 0, none⟩) l.length cap) := by rw [cell_of h.heap]; exact hv
    exact this
  have hSD : (Builtin.unsafeSliceData_ #[23] 82 #[.slice (some ⟨g, 0, none⟩) l.length cap]).run Tryz.prog w.drew = .ok (.pointer (some ⟨g, 0, none⟩)) w.drew :=
    Lib.run_unsafeSliceData_row _ _ _ _ _ _ (by omega)
  have hUS : (Builtin.unsafeString_ #[82, 3] 9 #[.pointer (some ⟨g, 0, none⟩), .int .i64 l.length]).run Tryz.prog w.drew = .ok (.string ⟨l.toArray⟩) (w.drew.freeze ⟨g, 0, none⟩ l.length) := by
    refine Lib.run_unsafeString_row w.drew 82 3 9 5 Tryz.underlying82 lies_byte g cur.size (by have hg' : w.drew.heap[g]? = some (.cells cur 5 (0, 0)) := hg; simp [World.shape?, hg']) l h0 (by omega) (by unfold maxLen at hcm; omega) ?_
    intro j x hx
    have := hown.cells (g := g) rfl j (.int .u8 x.toNat) (by simp [Lib.byteCells, hx])
    exact this
  clear hv hl0 hnc hcm hcs htake
  go_enter Tryz.func12, Tryz.ntmps12
  go_wp2
  go_region
  all_goals (go_wp2; go_ret; exact ⟨rfl, Lib.below_freeze (Below.drew (Below.refl B w)) (p := ⟨g, 0, none⟩) hbg _⟩)
end Go.Proofs.YthpocgdmfphlgaaGreatDoor.SL
