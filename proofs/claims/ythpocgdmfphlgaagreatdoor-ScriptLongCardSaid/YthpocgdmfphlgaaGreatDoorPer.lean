/- ParsePeriod for every text. -/
import Derived.Test.YthpocgdmfphlgaaGreatDoorParse
namespace Go.Proofs.YthpocgdmfphlgaaGreatDoor.SL
open Go.RowKit Go.Sort

def pText (s : ByteArray) : ByteArray := s ++ ⟨#[45, 48, 49]⟩
def pP (s : ByteArray) : Int := if dateBad (pText s) then 0 else 12 * (dY (pText s) - 1900) + dM (pText s) - 1

theorem good_bounds (s : ByteArray) (h : dateBad s = false) : validB (dY s) (dM s) (dD s) = true := by
  have h1 : s.toList.isEmpty = false ∧ ((bs (fmtDate (part (dwords s) 0) (part (dwords s) 1) (part (dwords s) 2))).toList == s.toList) = true := by
    unfold dateBad at h
    simpa using h
  simp only [dY, dM, dD, h]
  by_cases hv : validB (part (dwords s) 0) (part (dwords s) 1) (part (dwords s) 2) = true
  · simpa using hv
  · exfalso
    have hf : fmtDate (part (dwords s) 0) (part (dwords s) 1) (part (dwords s) 2) = [] := by simp [fmtDate, hv]
    rw [hf] at h1
    have h2 := beq_iff_eq.1 h1.2
    have h3 : (bs []).toList = [] := by rw [ByteArray.toList_eq]; rfl
    rw [h3] at h2
    rw [← h2] at h1
    simp at h1

set_option maxHeartbeats 1000000 in
theorem parsePeriod_any (s : ByteArray) (w : World) (hw : Env w) (hs : s.size ≤ 900) (hwl : ∀ x ∈ dwords (pText s), x.size ≤ 1000) :
    Calls Tryz.prog 74 #[.string s] w fun e w' => e = .returned (.tuple #[.int .i64 (pP s), .int .i64 (dE (pText s))]) ∧ Below w.heap.size w w' := by
  have hsz : (pText s).size = s.size + 3 := by simp [pText]; rfl
  have D := parseDate_any (pText s) w hw (by omega) hwl
  have HD := Lib.hid D
  clear D hwl
  by_cases hb : dateBad (pText s) = true
  · have hE : dE (pText s) = 54 := by simp [dE, hb]
    have hP : pP s = 0 := by simp [pP, hb]
    have HB := Lib.hid hb; have HE := Lib.hid hE; have HP := Lib.hid hP
    rw [hE, hP]
    have HD' := HD.out
    rw [hE] at HD'
    have HD := Lib.hid HD'
    clear hb hE hP HD' hsz
    go_enter Tryz.func74, Tryz.ntmps74
    go_wp2_with fail
    refine HD.out.mono ?_
    rintro e w1 ⟨rfl, hb1⟩
    go_wp2
    go_ret2
    exact ⟨rfl, hb1.alloc hb1.size _⟩
  · have hb' : dateBad (pText s) = false := by simpa using hb
    obtain ⟨a1, a2, a3, a4, _, _⟩ := validB_bounds (good_bounds _ hb')
    have hE : dE (pText s) = 0 := by simp [dE, hb']
    have hP : pP s = 12 * (dY (pText s) - 1900) + dM (pText s) - 1 := by simp [pP, hb']
    rw [hE, hP]
    have HD' := HD.out
    rw [hE] at HD'
    generalize dY (pText s) = Y at *
    generalize dM (pText s) = M at *
    generalize dD (pText s) = D at *
    have HD := Lib.hid HD'
    clear hb hb' hE hP HD' hsz
    go_enter Tryz.func74, Tryz.ntmps74
    go_wp2_with fail
    refine HD.out.mono ?_
    rintro e w1 ⟨rfl, hb1⟩
    go_wp2
    go_ret2
    exact ⟨rfl, hb1.alloc hb1.size _⟩
end Go.Proofs.YthpocgdmfphlgaaGreatDoor.SL
