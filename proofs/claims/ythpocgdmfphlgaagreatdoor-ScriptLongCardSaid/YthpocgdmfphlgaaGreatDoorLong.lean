/- ScriptLong returns true if awake does. -/
import Derived.Test.YthpocgdmfphlgaaGreatDoorHash
import Derived.Lib.SplitLaws
namespace Go.Proofs.YthpocgdmfphlgaaGreatDoor.SL
open Go.RowKit

set_option maxHeartbeats 400000 in
theorem fold_any (v n : Int) (w : World) (hn : 1 ≤ n) (hn2 : n ≤ 1000000) :
    Calls Tryz.prog 4 #[.int .i64 v, .int .i64 n] w fun e w' => e = .returned (.int .i64 (v % 18446744073709551616 % n)) ∧ w = w' := by
  have h3 : IntKind.u64.wrap v = v % 18446744073709551616 := IntKind.wrap_u64 v
  have h4 : (v % 18446744073709551616).tmod n = v % 18446744073709551616 % n := Int.tmod_eq_emod_of_nonneg (by omega)
  have h5 : wrap64 (v % 18446744073709551616 % n) = v % 18446744073709551616 % n := IntWalk.wrap64_in _ ⟨by have := Int.emod_nonneg (v % 18446744073709551616) (show n ≠ 0 by omega); omega, by have := Int.emod_lt_of_pos (v % 18446744073709551616) (show 0 < n by omega); omega⟩
  have H3 := Lib.hid h3; have H4 := Lib.hid h4; have H5 := Lib.hid h5; clear h3 h4 h5
  go_enter Tryz.func4, Tryz.ntmps4
  go_wp2
  go_ret
  refine ⟨?_, rfl⟩
  show Ending.returned (.int .i64 (wrap64 ((IntKind.u64.wrap v).tmod (max n 1)))) = _
  rw [show max n 1 = n by omega, H3.out, H4.out, H5.out]

theorem index_none (l : List UInt8) (c : UInt8) (h : c ∉ l) : Lib.index l [c] = -1 := by
  induction l with
  | nil => rfl
  | cons b l ih =>
    have h1 : b ≠ c := fun e => h (by simp [e])
    have h2 : c ∉ l := fun hm => h (by simp [hm])
    unfold Lib.index
    have hp : ([c] : List UInt8).isPrefixOf (b :: l) = false := by
      simp [List.isPrefixOf]; exact fun e => h1 e.symm
    rw [hp, ih h2]; rfl

def hashes (k : Nat) : ByteArray := ⟨(List.replicate k (35 : UInt8)).toArray⟩
theorem hashes_size (k : Nat) : (hashes k).size = k := by simp [hashes, ByteArray.size]
theorem hashes_hash (k : Nat) (hk : 0 < k) : Hash (hashes k) := by
  refine ⟨by rw [hashes_size]; exact hk, fun i h => ?_⟩
  show (hashes k).data[i] = 35
  simp [hashes]
theorem hashes_count (k : Nat) : Lib.countB (hashes k) ⟨#[10]⟩ = 0 := by
  refine Lib.countB_miss _ _ (index_none _ _ ?_)
  simp [hashes]

/-- The bytes behind i rounds. -/
def rowAt (k i : Nat) : List Value := List.replicate i (Value.int .u8 35) ++ List.replicate (k - i) (Value.int .u8 0)
theorem rowAt_zero (k : Nat) : rowAt k 0 = List.replicate k (Value.int .u8 0) := by simp [rowAt]
theorem rowAt_set (k i : Nat) (h : i < k) : (rowAt k i).set i (Value.int .u8 35) = rowAt k (i + 1) := by
  unfold rowAt
  rw [List.set_append_right _ _ (by simp)]
  obtain ⟨m, hm⟩ : ∃ m, k - i = m + 1 := ⟨k - i - 1, by omega⟩
  have : k - (i + 1) = m := by omega
  rw [hm, this, List.replicate_succ]
  simp [List.replicate_succ']
theorem rowAt_end (k : Nat) : rowAt k k = (List.replicate k (35 : UInt8)).map fun b => Value.int .u8 b.toNat := by
  simp [rowAt]

set_option maxHeartbeats 1000000 in
set_option maxRecDepth 100000 in
theorem long_walk (n : Int) (w : World) (hw : Env w) (hawake : ∀ w, Env w → Calls Tryz.prog 6 #[] w fun e w' => e = .returned (.bool true) ∧ Below w.heap.size w w') :
    Calls Tryz.prog 3 #[.int .i64 n] w fun e w' => e = .returned (.bool true) ∧ Below w.heap.size w w' := by
  obtain ⟨f, hf, hf3⟩ : ∃ f : Nat, n % 18446744073709551616 % 3 = f ∧ f < 3 := ⟨(n % 18446744073709551616 % 3).toNat, by omega, by omega⟩
  obtain ⟨i0, hi, hz0, hz1, hz2⟩ := info_parts info5
  go_enter Tryz.func3, Tryz.ntmps3
  go_wp2_with fail
  refine (fold_any n 3 w (by decide) (by decide)).mono ?_
  rw [hf]
  rintro e w' ⟨rfl, rfl⟩
  go_wp2_with (at_make; refine wpList_make_full _ rfl _ _ 23 rfl w.heap.size 5 i0 (.int .u8 0) 1 Tryz.underlying23 hi hz0 hz1 .i64 .i64 _ _ (65535 + f) rfl rfl ?hL ?hC ?b2 ?b3 ?b4 ?_)
  case hL => omega
  case hC => omega
  case b2 => rw [hz2]; omega
  case b3 => unfold maxLen; omega
  case b4 => exact Nat.le_refl _
  rw [toList_madeCells_one]
  obtain ⟨k, hk⟩ : ∃ k : Nat, k = 65535 + f := ⟨_, rfl⟩
  rw [← hk, show (65535 + (f : Int)) = (k : Int) by omega]
  have Hk := Lib.hid hk
  clear hk
  intro w1 hown hgrow
  have hb1 : Below w.heap.size w w1 := (Below.refl _ _).grown hgrow (Nat.le_refl _) (fun k h => by cases h)
  go_wp2
  go_loopw [5, 15] (fun v i wr => ∃ j : Nat, j ≤ k ∧ i = .int .i64 j ∧ wr.ownsRow w.heap.size 5 1 (.slice (some ⟨w.heap.size, 0, none⟩) k k) k (rowAt k j) ∧ Below w.heap.size w wr) (fun _ i _ => k - (intOf i).toNat)
  case atStart => exact ⟨0, Nat.zero_le _, rfl, by rw [rowAt_zero]; exact hown, hb1⟩
  case round =>
    clear hgrow hown hb1
    obtain ⟨j, hj, rfl, hown, hb⟩ := hrel
    by_cases hlt : j < k
    · have hc : wr.cell? ⟨w.heap.size, j, none⟩ = some (.int .u8 0) := by
        rw [hown.cellAt j (by omega)]
        unfold rowAt
        rw [List.getElem?_append_right (by simp), List.length_replicate, Nat.sub_self, List.getElem?_replicate, if_pos (by omega)]
      have hfz : wr.frozen? ⟨w.heap.size, j, none⟩ = false := hown.frozenAt j
      have hst := (hown.stored j (.int .u8 35)).1
      have hkb : k ≤ 65537 := by have := Hk.out; omega
      go_wp2
      go_roundw
      case rel => exact ⟨j + 1, by omega, by go_num, by rw [← rowAt_set k j hlt]; exact hst, hb.setCell (Nat.le_refl _) _⟩
      case measure => simp [intOf]; omega
    · have hjk : j = k := by omega
      subst hjk
      rw [rowAt_end] at hown
      have hcv : (convert 23 9 (.slice (some ⟨w.heap.size, 0, none⟩) j j)).run Tryz.prog wr = .ok (.string (hashes j)) wr := by
        have := run_convert_bytes_back (P := Tryz.prog) wr 23 9 5 ⟨w.heap.size, 0, none⟩ j (List.replicate j (35 : UInt8)) Tryz.underlying23 Tryz.underlying5 Tryz.underlying9 (fun t ht => by
          have h1 := hown.cellAt t (by simpa using ht)
          rw [List.getElem?_map, List.getElem?_eq_getElem ht] at h1
          simpa [Addr.add] using (by split <;> simp_all))
        simpa [hashes] using this
      have hE := hw.below hb
      have hk1 : 65535 ≤ j := by have := Hk.out; omega
      have hk2 : j ≤ 65537 := by have := Hk.out; omega
      have hsz : (hashes j).size = j := hashes_size j
      by_cases hle : j ≤ 65536
      · have hd : decide ((j : Int) ≤ 65536) = true := by simp; omega
        go_wp2_with fail
        refine (run_hash (hashes j) wr hE (by omega) (hashes_hash j (by omega)) (hashes_count j)).mono ?_
        rintro e w2 ⟨rfl, hb2⟩
        go_wp2_with fail
        refine (hawake w2 (hE.below hb2)).mono ?_
        rintro e w3 ⟨rfl, hb3⟩
        go_wp2
        go_ret
        exact ⟨rfl, (hb.trans (hb2.mono hb.size)).trans (hb3.mono (Nat.le_trans hb.size hb2.size))⟩
      · have hd : decide ((j : Int) ≤ 65536) = false := by simp; omega
        go_wp2_with fail
        refine (run_long (hashes j) wr (by omega) (by omega)).mono ?_
        rintro e w2 ⟨rfl, rfl⟩
        go_wp2_with fail
        refine (hawake w2 hE).mono ?_
        rintro e w3 ⟨rfl, hb3⟩
        go_wp2
        go_ret
        exact ⟨rfl, hb.trans (hb3.mono hb.size)⟩
end Go.Proofs.YthpocgdmfphlgaaGreatDoor.SL
