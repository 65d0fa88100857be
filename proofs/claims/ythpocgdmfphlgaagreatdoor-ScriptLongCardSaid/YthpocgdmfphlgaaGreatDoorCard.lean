/- The tied card of ScriptLong: for every integer the law returns true and leaves its input as it was; what the row lists is tied to the program text; no further condition. -/
import Derived.Test.YthpocgdmfphlgaaGreatDoorFin
import Derived.Test.YthpocgdmfphlgaaGreatDoorTieD
import Derived.SevenTiedAt
namespace Go.Proofs.YthpocgdmfphlgaaGreatDoor
open Go

theorem no_goes : Tryz.prog.funcs.any Func.goes = false := by
  rw [← Array.any_toList]
  kernel_rfl
theorem goes_at (g : Nat) : (Tryz.prog.funcs[g]?).any Func.goes = false := by
  cases h : Tryz.prog.funcs[g]? with
  | none => rfl
  | some fn =>
    have hm : fn ∈ Tryz.prog.funcs := Array.mem_of_getElem? h
    have := no_goes
    rw [Array.any_eq_false'] at this
    simpa using this fn hm
theorem goes_no : false = Rows.scriptLongRow.goesBy Tryz.pinned.checked.prog := by
  have h : Tryz.prog.goes 3 = false := by
    unfold Program.goes
    rw [no_goes, Bool.and_false, Bool.or_false]
    rw [List.any_eq_false]
    intro g _
    rw [goes_at g]
    decide
  show false = (((Tryz.prog.funcNamed "priceoffice/priceofficelaw42.ScriptLong").any Tryz.prog.goes) || false)
  rw [rootAt_is, Bool.or_false, Option.any_some, h]

set_option maxRecDepth 100000 in
theorem scriptLong_card : Rows.ScriptLongCardSaid :=
  Claim7.holds_tied_plain_at .later [] [.data, .data, .data, .data, .sentinel, .sentinel, .pinned] true (true, "cefbb371b7e8689c8bd0ea81cc3621ed3c983fac4a1d8333124b46748c697b67") true
    scriptLong_holds (fun _ h => by cases h) (by kernel_rfl) (fun _ h => by cases h) scriptLong_row_tie rfl ⟨rfl, rfl⟩ (by kernel_rfl) rfl
    (fun f fn hf hfn => by
      obtain rfl : f = 3 := Option.some.inj (rootAt_is.symm.trans hf) |>.symm
      obtain rfl : fn = Tryz.f3 := (Option.some.inj (Tryz.func3.symm.trans hfn)).symm
      exact ⟨by kernel_rfl, fun j t ht => by
        rw [Tryz.params3] at ht
        have hm : t ∈ [3] := by simpa using Array.mem_of_getElem? ht
        have hall : ([3].all fun u => !Tryz.prog.wantsStandIn u) = true := by kernel_rfl
        exact (show Tryz.prog.wantsStandIn t = false by simpa using List.all_eq_true.1 hall t hm)⟩)
    goes_no
end Go.Proofs.YthpocgdmfphlgaaGreatDoor
