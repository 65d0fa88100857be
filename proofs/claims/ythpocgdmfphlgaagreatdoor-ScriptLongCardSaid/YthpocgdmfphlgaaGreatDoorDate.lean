/- A date as text. -/
import Derived.Test.YthpocgdmfphlgaaGreatDoorVal
import Derived.Test.YthpocgdmfphlgaaGreatDoorBuild
import Derived.Lib.ItoaLen
namespace Go.Proofs.YthpocgdmfphlgaaGreatDoor.SL
open Go.RowKit Go.Sort

theorem info9 : (Tryz.prog.info? 9).map (fun i => (i.zero, i.size, i.bytes)) = some (some (.string ⟨#[]⟩), 1, 16) := by kernel_rfl

/-- strconv.Itoa, in one form. -/
theorem itoa_any (n : Int) (w : World) (hw : Env w) (h0 : -9223372036854775808 ≤ n) (h1 : n ≤ 9223372036854775807) :
    Calls Tryz.prog 54 #[.int .i64 n] w fun e w' => e = .returned (.string (bs (Lib.itoa n))) ∧ Below w.heap.size w w' :=
  (Tryz.strconv_Itoa n h0 h1 w hw.tab).mono fun e w' ⟨he, k, os, hk⟩ => ⟨he, by rw [hk]; exact Lib.below_grow _ _ (Nat.le_refl _) k os⟩

def pad2 (n : Int) : List UInt8 := if n < 10 then 48 :: Lib.itoa n else Lib.itoa n

theorem bs_size (l : List UInt8) : (bs l).size = l.length := by simp [bs, ByteArray.size]
theorem bs_append (a b : List UInt8) : bs a ++ bs b = bs (a ++ b) := by unfold bs; rw [ByteArray.mk_append_mk]
theorem bs_cons (c : UInt8) (l : List UInt8) : (⟨#[c]⟩ : ByteArray) ++ bs l = bs (c :: l) := bs_append [c] l

theorem join_cons2 (x y : List UInt8) (t : List (List UInt8)) (sep : List UInt8) : Lib.join (x :: y :: t) sep = x ++ (sep ++ Lib.join (y :: t) sep) := by
  simp [Lib.join, List.intercalate]
theorem join_len (m : Nat) (sep : List UInt8) : ∀ (xs : List (List UInt8)), (∀ x ∈ xs, x.length ≤ m) → (Lib.join xs sep).length ≤ xs.length * (m + sep.length)
  | [], _ => by simp [Lib.join, List.intercalate]
  | [x], h => by have := h x (by simp); simp [Lib.join, List.intercalate]; omega
  | x :: y :: t, h => by
    have ih := join_len m sep (y :: t) (fun z hz => h z (by simp at hz ⊢; exact .inr hz))
    have h1 := h x (by simp)
    rw [join_cons2]
    simp only [List.length_append, List.length_cons] at ih ⊢
    have e : (t.length + 1 + 1) * (m + sep.length) = (t.length + 1) * (m + sep.length) + (m + sep.length) := by rw [Nat.add_mul (t.length + 1) 1, Nat.one_mul]
    omega

theorem owns_below {w w' : World} {base : Nat} {e : TypeId} {size n : Nat} {v : Value} {xs : List Value} (h : w.ownsRow base e size v n xs) (hb : Below w.heap.size w w') : w'.ownsRow base e size v n xs := by
  obtain ⟨h1, h2⟩ := h
  refine ⟨h1, ?_⟩
  rcases h2 with h2 | ⟨g, cap, cur, hv, hg, hh, r⟩
  · exact .inl h2
  · exact .inr ⟨g, cap, cur, hv, hg, by rw [hb.block g (lt_of hh)]; exact hh, r⟩

/-- What 'joined' has gathered behind k numbers. -/
def words (zs : List Int) (k : Nat) : List Value := ((zs.take k).map fun z => Value.string (bs (pad2 z)))
theorem words_snoc (zs : List Int) (k : Nat) (h : k < zs.length) : words zs (k + 1) = words zs k ++ [Value.string (bs (pad2 zs[k]))] := by
  unfold words
  rw [List.take_succ_eq_append_getElem h, List.map_append]; rfl

set_option maxHeartbeats 1000000 in
set_option maxRecDepth 100000 in
theorem joined_any (b : Nat) (zs : List Int) (w : World) (hw : Env w) (hn : zs.length ≤ 100) (hz : ∀ z ∈ zs, 0 ≤ z ∧ z ≤ 99999) (hb : b < w.heap.size) (hpos : 0 < zs.length)
    (hc : ∀ j (h : j < zs.length), w.cell? ⟨b, j, none⟩ = some (.int .i64 zs[j])) :
    Calls Tryz.prog 100 #[.slice (some ⟨b, 0, none⟩) zs.length zs.length] w fun e w' => e = .returned (.string (bs (Lib.join (zs.map pad2) [45]))) ∧ Below w.heap.size w w' := by
  obtain ⟨i0, hi, hz0, hz1, hz2⟩ := info_parts info9
  go_enter Tryz.func100, Tryz.ntmps100
  go_wp2
  go_loopw [3, 5, 6, 9] (fun v _ _ i wr => ∃ k : Nat, k ≤ zs.length ∧ i = .int .i64 k ∧ wr.ownsRow w.heap.size 9 1 v k (words zs k) ∧ Below w.heap.size w wr) (fun _ _ _ i _ => zs.length - (intOf i).toNat)
  case atStart => exact ⟨0, Nat.zero_le _, rfl, by simpa [words] using World.ownsRow_nil _ _ _ _, Below.refl _ _⟩
  case round =>
    obtain ⟨k, hk, rfl, hown, hbel⟩ := hrel
    by_cases hlt : k < zs.length
    · have hcell : wr.cell? ⟨b, k, none⟩ = some (.int .i64 zs[k]) := by rw [hbel.cell hb]; exact hc k hlt
      obtain ⟨z, hzk⟩ : ∃ z, zs[k] = z := ⟨_, rfl⟩
      rw [hzk] at hcell
      have hz2 : 0 ≤ z ∧ z ≤ 99999 := by rw [← hzk]; exact hz _ (List.getElem_mem hlt)
      obtain ⟨hza, hzb⟩ := hz2
      have HZ := Lib.hid hzk
      clear hzk hc hz
      have hE := hw.below hbel
      have hlen : (bs (Lib.itoa z)).size ≤ 21 := by rw [bs_size]; exact Lib.itoa_length_le z (by omega) (by omega)
      have hbsz := hbel.size
      by_cases hz10 : z < 10
      · have hp : pad2 z = 48 :: Lib.itoa z := by simp [pad2, hz10]
        have HP := Lib.hid hp
        clear hp
        go_wp2_with (first | (go_at_call 54; refine (itoa_any z wr hE (by omega) (by omega)).mono ?_; rintro e w1 ⟨rfl, hb1⟩; have hown1 := owns_below hown hb1; have hsz1 := hb1.size) | (at_builtin; refine wpList_append_own _ rfl _ _ 34 rfl w.heap.size 9 i0 (.string ⟨#[]⟩) 1 16 Tryz.underlying34 hi hz0 hz1 hz2 rfl (by decide) _ _ _ rfl (hown1.alloc _) ⟨w1.heap.size, 0, none⟩ 1 1 [.string ((⟨#[48]⟩ : ByteArray) ++ bs (Lib.itoa z))] rfl rfl ?ca1 ?ca2 ?ca3 ?ca4 ?ca5 ?_))
        case ca1 => exact fun j u hj => cell_one_new _ _ _ j u hj
        case ca2 => intro u hu; simp at hu; subst hu; rfl
        case ca3 => unfold maxLen; omega
        case ca4 => omega
        case ca5 => have := hbel.size; simp; omega
        intro v' w2 hown2 hgrow _
        go_wp2
        go_roundw
        case rel =>
          refine ⟨k + 1, by omega, by go_num, ?_, ((hbel.trans (hb1.mono hbsz)).alloc (by omega) _).grown hgrow (by simp; omega) (fun k hk => (hown1.lt k hk).1)⟩
          rw [words_snoc zs k hlt, HZ.out, HP.out]
          exact (bs_cons 48 (Lib.itoa z)) ▸ hown2
        case measure => simp [intOf]; omega
      · have hp : pad2 z = Lib.itoa z := by simp [pad2, hz10]
        have HP := Lib.hid hp
        clear hp
        go_wp2_with (first | (go_at_call 54; refine (itoa_any z wr hE (by omega) (by omega)).mono ?_; rintro e w1 ⟨rfl, hb1⟩; have hown1 := owns_below hown hb1; have hsz1 := hb1.size) | (at_builtin; refine wpList_append_own _ rfl _ _ 34 rfl w.heap.size 9 i0 (.string ⟨#[]⟩) 1 16 Tryz.underlying34 hi hz0 hz1 hz2 rfl (by decide) _ _ _ rfl (hown1.alloc _) ⟨w1.heap.size, 0, none⟩ 1 1 [.string (bs (Lib.itoa z))] rfl rfl ?cb1 ?cb2 ?cb3 ?cb4 ?cb5 ?_))
        case cb1 => exact fun j u hj => cell_one_new _ _ _ j u hj
        case cb2 => intro u hu; simp at hu; subst hu; rfl
        case cb3 => unfold maxLen; omega
        case cb4 => omega
        case cb5 => have := hbel.size; simp; omega
        intro v' w2 hown2 hgrow _
        go_wp2
        go_roundw
        case rel =>
          refine ⟨k + 1, by omega, by go_num, ?_, ((hbel.trans (hb1.mono hbsz)).alloc (by omega) _).grown hgrow (by simp; omega) (fun k hk => (hown1.lt k hk).1)⟩
          rw [words_snoc zs k hlt, HZ.out, HP.out]
          exact hown2
        case measure => simp [intOf]; omega
    · have hkl : k = zs.length := by omega
      subst hkl
      clear hc
      obtain ⟨g, cap, rfl, hg, hcap, hcs⟩ : ∃ g cap, u3 = .slice (some ⟨g, 0, none⟩) zs.length cap ∧ g < wr.heap.size ∧ zs.length ≤ cap ∧ ∀ j x, (zs.map fun z => bs (pad2 z))[j]? = some x → wr.cell? ⟨g, 0 + j, none⟩ = some (.string x) := by
        rcases hown.2 with ⟨_, h0⟩ | ⟨g, cap, cur, hv, _, hh, hle, _⟩
        · omega
        · subst hv
          refine ⟨g, cap, rfl, lt_of hh, hle, fun j x hj => ?_⟩
          have hj' : j < zs.length := by
            rcases Nat.lt_or_ge j zs.length with h | h
            · exact h
            · rw [List.getElem?_eq_none (by simpa using h)] at hj; cases hj
          rw [Nat.zero_add, hown.cellAt j (by omega)]
          simp only [words, List.take_length]
          rw [List.getElem?_map] at hj ⊢
          cases hq : zs[j]? with
          | none => rw [hq] at hj; cases hj
          | some q => rw [hq] at hj; simp at hj ⊢; rw [hj]
      have hjn : ((zs.map fun z => bs (pad2 z)).map (·.data.toList)) = zs.map pad2 := by simp [bs, Function.comp_def]
      have hsum : (Lib.join (zs.map pad2) [45]).length ≤ 140737488355328 := by
        have := join_len 22 [45] (zs.map pad2) (fun x hx => by
          obtain ⟨z, hz', rfl⟩ := List.mem_map.1 hx
          have hzz := hz z hz'
          have := Lib.itoa_length_le z (by omega) (by omega)
          unfold pad2; split <;> simp <;> omega)
        simp only [List.length_map, List.length_cons, List.length_nil] at this
        omega
      have J := Tryz.strings_Join g 0 cap (zs.map fun z => bs (pad2 z)) ⟨#[45]⟩ wr hcs hg (by simp; omega) (by simpa using hcap) (by rw [hjn]; exact hsum)
      rw [hjn, List.length_map] at J
      have HJ := Lib.hid J
      clear J hcs hjn hown hsum hz
      go_wp2_with fail
      refine HJ.out.mono ?_
      rintro e w2 ⟨rfl, hb2⟩
      go_wp2
      go_ret
      exact ⟨rfl, hbel.trans (hb2.mono hbel.size)⟩
end Go.Proofs.YthpocgdmfphlgaaGreatDoor.SL
