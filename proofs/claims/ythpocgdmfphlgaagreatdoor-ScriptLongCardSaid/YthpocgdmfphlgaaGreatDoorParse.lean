/- ParseDate for every text. -/
import Derived.Test.YthpocgdmfphlgaaGreatDoorDate
namespace Go.Proofs.YthpocgdmfphlgaaGreatDoor.SL
open Go.RowKit Go.Sort

def fmtDate (y m d : Int) : List UInt8 := if validB y m d then Lib.join [pad2 y, pad2 m, pad2 d] [45] else []

theorem validB_bounds {y m d : Int} (h : validB y m d = true) : 1900 ≤ y ∧ y ≤ 2399 ∧ 1 ≤ m ∧ m ≤ 12 ∧ 1 ≤ d ∧ d ≤ 31 := by
  simp only [validB, decide_eq_true_eq] at h
  obtain ⟨h1, h2, h3, h4, h5, h6⟩ := h
  refine ⟨h1, h2, h3, h4, h5, ?_⟩
  have : lenOf y m ≤ 31 := by unfold lenOf; repeat (split) <;> omega
  omega

set_option maxHeartbeats 1000000 in
theorem formatDate_any (y m d : Int) (w : World) (hw : Env w) :
    Calls Tryz.prog 127 #[.agg #[.int .i64 y, .int .i64 m, .int .i64 d]] w fun e w' => e = .returned (.string (bs (fmtDate y m d))) ∧ Below w.heap.size w w' := by
  have hb0 : Below w.heap.size w (w.alloc (.cells #[.int .i64 y, .int .i64 m, .int .i64 d] 169)) := (Below.refl _ _).alloc (Nat.le_refl _) _
  by_cases hv : validB y m d = true
  · obtain ⟨a1, a2, a3, a4, a5, a6⟩ := validB_bounds hv
    have V := validDate_any y m d (w.alloc (.cells #[.int .i64 y, .int .i64 m, .int .i64 d] 169))
    rw [hv] at V
    have HV := Lib.hid V
    have hf : fmtDate y m d = Lib.join [pad2 y, pad2 m, pad2 d] [45] := by simp [fmtDate, hv]
    rw [hf]
    clear V hv hf
    go_enter Tryz.func127, Tryz.ntmps127
    go_wp2_with fail
    refine HV.out.mono ?_
    rintro e w1 ⟨rfl, hb1⟩
    have hs1 := hb1.size
    have c0 : w1.cell? ⟨w.heap.size, 0, none⟩ = some (.int .i64 y) := by rw [hb1.cell (by simp)]; simp
    have c1 : w1.cell? ⟨w.heap.size, 1, none⟩ = some (.int .i64 m) := by rw [hb1.cell (by simp)]; simp
    have c2 : w1.cell? ⟨w.heap.size, 2, none⟩ = some (.int .i64 d) := by rw [hb1.cell (by simp)]; simp
    have hE : Env (w1.alloc (.cells #[.int .i64 y, .int .i64 m, .int .i64 d] 3)) := hw.below ((hb0.trans (hb1.mono hb0.size)).alloc (Nat.le_trans hb0.size hb1.size) _)
    have J := joined_any w1.heap.size [y, m, d] (w1.alloc (.cells #[.int .i64 y, .int .i64 m, .int .i64 d] 3)) hE (by simp) (by intro z hz; simp at hz; omega) (by simp) (by simp) (by
      intro j hj
      match j, hj with
      | 0, _ => simp
      | 1, _ => simp
      | 2, _ => simp)
    have HJ := Lib.hid J
    clear J HV
    go_wp2_with fail
    refine HJ.out.mono ?_
    rintro e w2 ⟨rfl, hb2⟩
    go_wp2
    go_ret
    refine ⟨rfl, ?_⟩
    exact ((hb0.trans (hb1.mono hb0.size)).alloc (Nat.le_trans hb0.size hb1.size) _).trans (hb2.mono (Nat.le_trans (Nat.le_trans hb0.size hb1.size) (by simp)))
  · have hv' : validB y m d = false := by simpa using hv
    have V := validDate_any y m d (w.alloc (.cells #[.int .i64 y, .int .i64 m, .int .i64 d] 169))
    rw [hv'] at V
    have HV := Lib.hid V
    have hf : fmtDate y m d = [] := by simp [fmtDate, hv']
    rw [hf]
    clear V hv hv' hf
    go_enter Tryz.func127, Tryz.ntmps127
    go_wp2_with fail
    refine HV.out.mono ?_
    rintro e w1 ⟨rfl, hb1⟩
    go_wp2
    go_ret
    exact ⟨rfl, hb0.trans (hb1.mono hb0.size)⟩

def atoi0 (l : List UInt8) : Int := match Lib.atoiAll l with
  | .ok v => v
  | Lib.NumEnd.syntax => 0
  | .range => Lib.atoiSat l

theorem atoi_any (s : ByteArray) (w : World) (hw : Env w) (hs : s.size ≤ 1000000) :
    Calls Tryz.prog 126 #[.string s] w fun e w' => (∃ err, e = .returned (.tuple #[.int .i64 (atoi0 s.data.toList), err])) ∧ Below w.heap.size w w' := by
  rcases h : Lib.atoiAll s.data.toList with v | _ | _
  · skip
    refine (Tryz.strconv_Atoi_ok s (by omega) v h w).mono ?_
    rintro e w' ⟨rfl, hk⟩
    refine ⟨⟨.nilIface, by simp [atoi0, h]⟩, ?_⟩
    rcases hk with rfl | ⟨t, rfl⟩
    · exact Below.refl _ _
    · exact Joins.below_bytesWorld _ _ _ _ (Nat.le_refl _)
  · skip
    obtain ⟨ev, hev, k⟩ := hw.syn
    refine (Tryz.strconv_Atoi_syntax s (by omega) h ev w hev k).mono ?_
    rintro e w' ⟨N, rfl, _, _, hb⟩
    exact ⟨⟨_, by simp [atoi0, h]; rfl⟩, hb⟩
  · skip
    obtain ⟨ev, hev, k⟩ := hw.rng
    refine (Tryz.strconv_Atoi_range s (by omega) h ev w hev k).mono ?_
    rintro e w' ⟨N, rfl, _, _, hb⟩
    exact ⟨⟨_, by simp [atoi0, h]; rfl⟩, hb⟩

/-- The words of a date's text. -/
def dwords (s : ByteArray) : List ByteArray := Lib.splitB ⟨#[45]⟩ 0 (min 3 (s.size + 1) - 1) s
def part (ws : List ByteArray) (i : Nat) : Int := match ws[i]? with | some x => atoi0 x.data.toList | none => 0
def dateBad (s : ByteArray) : Bool := s.toList.isEmpty || !((bs (fmtDate (part (dwords s) 0) (part (dwords s) 1) (part (dwords s) 2))).toList == s.toList)
def dY (s : ByteArray) : Int := if dateBad s then 0 else part (dwords s) 0
def dM (s : ByteArray) : Int := if dateBad s then 0 else part (dwords s) 1
def dD (s : ByteArray) : Int := if dateBad s then 0 else part (dwords s) 2
def dE (s : ByteArray) : Int := if dateBad s then 54 else 0

theorem dwords_len (s : ByteArray) : (dwords s).length ≤ 3 := Nat.le_trans (Lib.splitB_length_le _ _ _ _) (by omega)

def pcell (ws : List ByteArray) (k i : Nat) : Int := if i < k then part ws i else 0
def pcells (ws : List ByteArray) (k : Nat) : Array Value := #[.int .i64 (pcell ws k 0), .int .i64 (pcell ws k 1), .int .i64 (pcell ws k 2)]
theorem pcells_set (ws : List ByteArray) (k : Nat) (hk : k < 3) : (pcells ws k).setIfInBounds k (.int .i64 (part ws k)) = pcells ws (k + 1) := by
  match k, hk with
  | 0, _ => rfl
  | 1, _ => rfl
  | 2, _ => rfl
theorem pcells_get (ws : List ByteArray) (k : Nat) (hk : k < 3) : (pcells ws k)[k]? = some (.int .i64 0) := by
  match k, hk with
  | 0, _ => rfl
  | 1, _ => rfl
  | 2, _ => rfl
theorem pcell_end (ws : List ByteArray) (i : Nat) (_hi : i < 3) : pcell ws ws.length i = part ws i := by
  unfold pcell part
  split
  · rfl
  · rw [List.getElem?_eq_none (by omega)]

theorem cellsOf_get (ws : List ByteArray) (N k : Nat) (hk : k < ws.length) : (Lib.cellsOf ws N)[k]? = some (.string ws[k]) := by
  unfold Lib.cellsOf
  rw [List.getElem?_toArray, List.getElem?_append_left (by simpa using hk), List.getElem?_map, List.getElem?_eq_getElem hk]; rfl

/-- What the loop over the words keeps; n: the heap's size when the call began. -/
structure PInv (w : World) (ws : List ByteArray) (N k : Nat) (wr : World) : Prop where
  below : Below w.heap.size w wr
  res : wr.heap[w.heap.size]? = some (.cells #[.int .i64 0, .int .i64 0, .int .i64 0] 169 (0, 0))
  parts : wr.heap[w.heap.size + 1]? = some (.cells (pcells ws k) 230 (0, 0))
  words : wr.heap[w.heap.size + 1 + 1]? = some (.cells (Lib.cellsOf ws N) 9 (0, 0))

theorem PInv.later {w wr w1 : World} {ws : List ByteArray} {N k : Nat} (h : PInv w ws N k wr) (hb : Below wr.heap.size wr w1) : PInv w ws N k w1 :=
  ⟨h.below.trans (hb.mono h.below.size), by rw [hb.block _ (lt_of h.res)]; exact h.res, by rw [hb.block _ (lt_of h.parts)]; exact h.parts, by rw [hb.block _ (lt_of h.words)]; exact h.words⟩

theorem PInv.store {w wr : World} {ws : List ByteArray} {N k : Nat} (h : PInv w ws N k wr) (hk : k < 3) : PInv w ws N (k + 1) (wr.setCell ⟨w.heap.size + 1, k, none⟩ (.int .i64 (part ws k))) :=
  ⟨h.below.setCell (by simp) _, by rw [Below.heap_setCell _ _ _ _ (by simp)]; exact h.res, by rw [set_of h.parts, pcells_set ws k hk], by rw [Below.heap_setCell _ _ _ _ (by simp)]; exact h.words⟩

theorem PInv.start (w : World) (ws : List ByteArray) (N : Nat) : PInv w ws N 0 (((w.alloc (.cells #[.int .i64 0, .int .i64 0, .int .i64 0] 169)).alloc (.cells #[.int .i64 0, .int .i64 0, .int .i64 0] 230)).alloc (.cells (Lib.cellsOf ws N) 9)) := by
  refine ⟨(((Below.refl _ _).alloc (Nat.le_refl _) _).alloc (by simp) _).alloc (by simp; omega) _, ?_, ?_, ?_⟩
  · rw [Below.heap_alloc _ _ _ (by simp; omega), Below.heap_alloc _ _ _ (by simp)]; exact heap_alloc_new w _
  · rw [Below.heap_alloc _ _ _ (by simp)]; have := heap_alloc_new (w.alloc (.cells #[.int .i64 0, .int .i64 0, .int .i64 0] 169)) (.cells #[.int .i64 0, .int .i64 0, .int .i64 0] 230); simpa [pcells, pcell] using this
  · have := heap_alloc_new ((w.alloc (.cells #[.int .i64 0, .int .i64 0, .int .i64 0] 169)).alloc (.cells #[.int .i64 0, .int .i64 0, .int .i64 0] 230)) (.cells (Lib.cellsOf ws N) 9); simpa using this

set_option maxHeartbeats 2000000 in
theorem parseDate_any (s : ByteArray) (w : World) (hw : Env w) (hs : s.size ≤ 1000) (hwl : ∀ x ∈ dwords s, x.size ≤ 1000) :
    Calls Tryz.prog 72 #[.string s] w fun e w' => e = .returned (.tuple #[.agg #[.int .i64 (dY s), .int .i64 (dM s), .int .i64 (dD s)], .int .i64 (dE s)]) ∧ Below w.heap.size w w' := by
  obtain ⟨m, hm⟩ := hw.maxLen
  have hz := hw.pos
  have hm2 : ((w.alloc (.cells #[.int .i64 0, .int .i64 0, .int .i64 0] 169)).alloc (.cells #[.int .i64 0, .int .i64 0, .int .i64 0] 230)).cell? ⟨0, 0, none⟩ = some (.int .i64 m) := by
    rw [World.cell?_alloc_past _ _ _ (by simp), World.cell?_alloc_past _ _ _ hz]; exact hm
  have S := Tryz.strings_SplitN s ⟨#[45]⟩ 3 m ((w.alloc (.cells #[.int .i64 0, .int .i64 0, .int .i64 0] 169)).alloc (.cells #[.int .i64 0, .int .i64 0, .int .i64 0] 230)) (by omega) hm2 (by decide) (by decide) (by decide)
  have hl := dwords_len s
  obtain ⟨ws, hws⟩ : ∃ ws, dwords s = ws := ⟨_, rfl⟩
  rw [show Lib.splitB ⟨#[45]⟩ 0 (min 3 (s.size + 1) - 1) s = ws from hws] at S
  rw [hws] at hl hwl
  have I0 := PInv.start w ws (min 3 (s.size + 1))
  have HW := Lib.hid hws
  have HWL := Lib.hid hwl
  have HS := Lib.hid S
  clear S hm hm2 hws hwl
  generalize min 3 (s.size + 1) = N at HS I0
  go_enter Tryz.func72, Tryz.ntmps72
  go_wp2_with fail
  refine HS.out.mono ?_
  rintro e w1 ⟨rfl, rfl⟩
  generalize ((w.alloc (.cells #[.int .i64 0, .int .i64 0, .int .i64 0] 169)).alloc (.cells #[.int .i64 0, .int .i64 0, .int .i64 0] 230)).alloc (.cells (Lib.cellsOf ws N) 9) = w1 at I0 ⊢
  have hheap : ((w.alloc (.cells #[.int .i64 0, .int .i64 0, .int .i64 0] 169)).alloc (.cells #[.int .i64 0, .int .i64 0, .int .i64 0] 230)).heap.size = w.heap.size + 1 + 1 := by simp
  rw [hheap]
  clear HS hheap
  go_wp2_with fail
  go_loopw [5, 6, 11] (fun _ _ i wr => ∃ k : Nat, k ≤ ws.length ∧ i = .int .i64 k ∧ PInv w ws N k wr) (fun _ _ i _ => ws.length - (intOf i).toNat)
  case atStart => exact ⟨0, Nat.zero_le _, rfl, I0⟩
  case round =>
    clear I0
    obtain ⟨k, hk, rfl, I⟩ := hrel
    by_cases hlt : k < ws.length
    · have hE := hw.below I.below
      have hc : wr.cell? ⟨w.heap.size + 1 + 1, k, none⟩ = some (.string ws[k]) := by rw [cell_of I.words]; exact cellsOf_get ws N k hlt
      have hxs : ws[k].size ≤ 1000 := HWL.out _ (List.getElem_mem hlt)
      have hpk : part ws k = atoi0 ws[k].data.toList := by simp [part, hlt]
      obtain ⟨x, hx⟩ : ∃ x, ws[k] = x := ⟨_, rfl⟩
      rw [hx] at hc hxs hpk
      have HP := Lib.hid hpk
      clear hx hpk
      go_wp2_with fail
      refine (atoi_any x wr hE (by omega)).mono ?_
      rintro e w2 ⟨⟨err, rfl⟩, hb2⟩
      have I2 := I.later hb2
      have d1 : w2.cell? ⟨w.heap.size + 1, k, none⟩ = some (.int .i64 0) := by rw [cell_of I2.parts]; exact pcells_get ws k (by omega)
      have f1 : w2.frozen? ⟨w.heap.size + 1, k, none⟩ = false := free_of I2.parts k
      have I3 := I2.store (show k < 3 by omega)
      rw [HP.out] at I3
      clear I I2
      go_wp2
      go_roundw
      case rel => exact ⟨k + 1, by omega, by go_num, I3⟩
      case measure => simp [intOf]; omega
    · have hkl : k = ws.length := by omega
      subst hkl
      have e0 := pcell_end ws 0 (by decide); have e1 := pcell_end ws 1 (by decide); have e2 := pcell_end ws 2 (by decide)
      have c0 : wr.cell? ⟨w.heap.size + 1, 0, none⟩ = some (.int .i64 (part ws 0)) := by rw [cell_of I.parts, ← e0]; rfl
      have c1 : wr.cell? ⟨w.heap.size + 1, 1, none⟩ = some (.int .i64 (part ws 1)) := by rw [cell_of I.parts, ← e1]; rfl
      have c2 : wr.cell? ⟨w.heap.size + 1, 2, none⟩ = some (.int .i64 (part ws 2)) := by rw [cell_of I.parts, ← e2]; rfl
      clear e0 e1 e2
      have hbw := I.below
      have hE := hw.below I.below
      have h0 : w.heap.size < wr.heap.size := lt_of I.res
      have h1 : w.heap.size + 1 < wr.heap.size := lt_of I.parts
      have hbad : dateBad s = (s.toList.isEmpty || !((bs (fmtDate (part ws 0) (part ws 1) (part ws 2))).toList == s.toList)) := by unfold dateBad; rw [HW.out]
      have hY : dY s = if dateBad s then 0 else part ws 0 := by unfold dY; rw [HW.out]
      have hM : dM s = if dateBad s then 0 else part ws 1 := by unfold dM; rw [HW.out]
      have hD : dD s = if dateBad s then 0 else part ws 2 := by unfold dD; rw [HW.out]
      have HY := Lib.hid hY; have HM := Lib.hid hM; have HD := Lib.hid hD
      clear hY hM hD
      generalize part ws 0 = p0 at c0 hbad HY
      generalize part ws 1 = p1 at c1 hbad HM
      generalize part ws 2 = p2 at c2 hbad HD
      have hBA : Below wr.heap.size wr (wr.alloc (.cells #[.int .i64 p0, .int .i64 p1, .int .i64 p2] 169)) := (Below.refl _ _).alloc (Nat.le_refl _) _
      have F := formatDate_any p0 p1 p2 (wr.alloc (.cells #[.int .i64 p0, .int .i64 p1, .int .i64 p2] 169)) (hE.below hBA)
      have HF := Lib.hid F
      have I1 := I.later hBA
      clear F I
      by_cases he : s.toList.isEmpty = true
      · have hb : dateBad s = true := by rw [hbad, he]; rfl
        have HB := Lib.hid hb
        have r0 : wr.cell? ⟨w.heap.size, 0, none⟩ = some (.int .i64 0) := by rw [← hBA.cell (p := ⟨w.heap.size, 0, none⟩) h0, cell_of I1.res]; rfl
        have r1 : wr.cell? ⟨w.heap.size, 1, none⟩ = some (.int .i64 0) := by rw [← hBA.cell (p := ⟨w.heap.size, 1, none⟩) h0, cell_of I1.res]; rfl
        have r2 : wr.cell? ⟨w.heap.size, 2, none⟩ = some (.int .i64 0) := by rw [← hBA.cell (p := ⟨w.heap.size, 2, none⟩) h0, cell_of I1.res]; rfl
        have f0 : ∀ o, wr.frozen? ⟨w.heap.size, o, none⟩ = false := fun o => by rw [← hBA.frozen (p := ⟨w.heap.size, o, none⟩) h0]; exact free_of I1.res o
        clear hbad hb HF
        go_wp2
        refine bodyPost_ret (v := .tuple #[.agg #[.int .i64 0, .int .i64 0, .int .i64 0], .int .i64 54]) ?_ rfl ⟨?_, ?_⟩
        · simp [results, Tryz.results72, go_sem, r0, r1, r2, h0]
        · rw [HY.out, HM.out, HD.out]; simp [HB.out, dE]
        · exact (((hbw.setCell (p := ⟨w.heap.size, 0, none⟩) (Nat.le_refl _) _).setCell (p := ⟨w.heap.size, 1, none⟩) (Nat.le_refl _) _).setCell (p := ⟨w.heap.size, 2, none⟩) (Nat.le_refl _) _).alloc (by simp; omega) _
      · have he' : s.toList.isEmpty = false := by simpa using he
        clear he
        obtain ⟨B, hB⟩ : ∃ B, ((bs (fmtDate p0 p1 p2)).toList == s.toList) = B := ⟨_, rfl⟩
        have hb : dateBad s = !B := by rw [hbad, he', hB]; rfl
        have HB := Lib.hid hb
        have HBB := Lib.hid hB
        clear hbad hb hB
        go_wp2_with fail
        refine HF.out.mono ?_
        rintro e w3 ⟨rfl, hb3⟩
        have I3 := I1.later hb3
        have hs3 := hb3.size
        have hx : (wr.alloc (.cells #[.int .i64 p0, .int .i64 p1, .int .i64 p2] 169)).heap.size = wr.heap.size + 1 := by simp
        have h03 : w.heap.size < w3.heap.size := lt_of I3.res
        have r0 : w3.cell? ⟨w.heap.size, 0, none⟩ = some (.int .i64 0) := by rw [cell_of I3.res]; rfl
        have r1 : w3.cell? ⟨w.heap.size, 1, none⟩ = some (.int .i64 0) := by rw [cell_of I3.res]; rfl
        have r2 : w3.cell? ⟨w.heap.size, 2, none⟩ = some (.int .i64 0) := by rw [cell_of I3.res]; rfl
        have t0 : w3.cell? ⟨wr.heap.size, 0, none⟩ = some (.int .i64 p0) := by rw [hb3.cell (by simp)]; simp
        have t1 : w3.cell? ⟨wr.heap.size, 1, none⟩ = some (.int .i64 p1) := by rw [hb3.cell (by simp)]; simp
        have t2 : w3.cell? ⟨wr.heap.size, 2, none⟩ = some (.int .i64 p2) := by rw [hb3.cell (by simp)]; simp
        have f0 : ∀ o, w3.frozen? ⟨w.heap.size, o, none⟩ = false := fun o => free_of I3.res o
        clear hx
        cases B with
        | false =>
          have hq := HBB.out
          go_wp2
          refine bodyPost_ret (v := .tuple #[.agg #[.int .i64 0, .int .i64 0, .int .i64 0], .int .i64 54]) ?_ rfl ⟨?_, ?_⟩
          · simp [results, Tryz.results72, go_sem, r0, r1, r2]
          · rw [HY.out, HM.out, HD.out]; simp [HB.out, dE]
          · exact ((I3.below.setCell (p := ⟨w.heap.size, 0, none⟩) (Nat.le_refl _) _).setCell (p := ⟨w.heap.size, 1, none⟩) (Nat.le_refl _) _).setCell (p := ⟨w.heap.size, 2, none⟩) (Nat.le_refl _) _
        | true =>
          have hq := HBB.out
          go_wp2
          refine bodyPost_ret (v := .tuple #[.agg #[.int .i64 p0, .int .i64 p1, .int .i64 p2], .int .i64 0]) ?_ rfl ⟨?_, ?_⟩
          · simp [results, Tryz.results72, go_sem, r0, r1, r2]
          · rw [HY.out, HM.out, HD.out]; simp [HB.out, dE]
          · exact ((I3.below.setCell (p := ⟨w.heap.size, 0, none⟩) (Nat.le_refl _) _).setCell (p := ⟨w.heap.size, 1, none⟩) (Nat.le_refl _) _).setCell (p := ⟨w.heap.size, 2, none⟩) (Nat.le_refl _) _
end Go.Proofs.YthpocgdmfphlgaaGreatDoor.SL
