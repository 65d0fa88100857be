/- Facts on the types and the names of the program, in rows. -/
import Derived.Test.YthpocgdmfphlgaaGreatDoorFactC
import Derived.KernelRfl
import GoSem.ClaimDataLaid
import GoSem.ClaimJoined
namespace Go.Proofs.YthpocgdmfphlgaaGreatDoor
open Go
set_option maxRecDepth 100000
theorem types_size : Tryz.prog.types.size = 964 := by kernel_rfl
theorem types_cut : List.range 964 = List.range' 0 60 ++ (List.range' 60 60 ++ (List.range' 120 60 ++ (List.range' 180 60 ++ (List.range' 240 60 ++ (List.range' 300 60 ++ (List.range' 360 60 ++ (List.range' 420 60 ++ (List.range' 480 60 ++ (List.range' 540 60 ++ (List.range' 600 60 ++ (List.range' 660 60 ++ (List.range' 720 60 ++ (List.range' 780 60 ++ (List.range' 840 60 ++ (List.range' 900 60 ++ (List.range' 960 4)))))))))))))))) := by kernel_rfl
def mapOk (P : Program) (t : TypeId) : Bool := match P.underlying t with | some (.map _ e) => decide (e < P.types.size) | _ => true

theorem fine0 : (List.range' 0 60).all (rowFine Tryz.prog) = true := by kernel_rfl
theorem mapOk0 : (List.range' 0 60).all (mapOk Tryz.prog) = true := by kernel_rfl
theorem fine1 : (List.range' 60 60).all (rowFine Tryz.prog) = true := by kernel_rfl
theorem mapOk1 : (List.range' 60 60).all (mapOk Tryz.prog) = true := by kernel_rfl
theorem fine2 : (List.range' 120 60).all (rowFine Tryz.prog) = true := by kernel_rfl
theorem mapOk2 : (List.range' 120 60).all (mapOk Tryz.prog) = true := by kernel_rfl
theorem fine3 : (List.range' 180 60).all (rowFine Tryz.prog) = true := by kernel_rfl
theorem mapOk3 : (List.range' 180 60).all (mapOk Tryz.prog) = true := by kernel_rfl
theorem fine4 : (List.range' 240 60).all (rowFine Tryz.prog) = true := by kernel_rfl
theorem mapOk4 : (List.range' 240 60).all (mapOk Tryz.prog) = true := by kernel_rfl
theorem fine5 : (List.range' 300 60).all (rowFine Tryz.prog) = true := by kernel_rfl
theorem mapOk5 : (List.range' 300 60).all (mapOk Tryz.prog) = true := by kernel_rfl
theorem fine6 : (List.range' 360 60).all (rowFine Tryz.prog) = true := by kernel_rfl
theorem mapOk6 : (List.range' 360 60).all (mapOk Tryz.prog) = true := by kernel_rfl
theorem fine7 : (List.range' 420 60).all (rowFine Tryz.prog) = true := by kernel_rfl
theorem mapOk7 : (List.range' 420 60).all (mapOk Tryz.prog) = true := by kernel_rfl
theorem fine8 : (List.range' 480 60).all (rowFine Tryz.prog) = true := by kernel_rfl
theorem mapOk8 : (List.range' 480 60).all (mapOk Tryz.prog) = true := by kernel_rfl
theorem fine9 : (List.range' 540 60).all (rowFine Tryz.prog) = true := by kernel_rfl
theorem mapOk9 : (List.range' 540 60).all (mapOk Tryz.prog) = true := by kernel_rfl
theorem fine10 : (List.range' 600 60).all (rowFine Tryz.prog) = true := by kernel_rfl
theorem mapOk10 : (List.range' 600 60).all (mapOk Tryz.prog) = true := by kernel_rfl
theorem fine11 : (List.range' 660 60).all (rowFine Tryz.prog) = true := by kernel_rfl
theorem mapOk11 : (List.range' 660 60).all (mapOk Tryz.prog) = true := by kernel_rfl
theorem fine12 : (List.range' 720 60).all (rowFine Tryz.prog) = true := by kernel_rfl
theorem mapOk12 : (List.range' 720 60).all (mapOk Tryz.prog) = true := by kernel_rfl
theorem fine13 : (List.range' 780 60).all (rowFine Tryz.prog) = true := by kernel_rfl
theorem mapOk13 : (List.range' 780 60).all (mapOk Tryz.prog) = true := by kernel_rfl
theorem fine14 : (List.range' 840 60).all (rowFine Tryz.prog) = true := by kernel_rfl
theorem mapOk14 : (List.range' 840 60).all (mapOk Tryz.prog) = true := by kernel_rfl
theorem fine15 : (List.range' 900 60).all (rowFine Tryz.prog) = true := by kernel_rfl
theorem mapOk15 : (List.range' 900 60).all (mapOk Tryz.prog) = true := by kernel_rfl
theorem fine16 : (List.range' 960 4).all (rowFine Tryz.prog) = true := by kernel_rfl
theorem mapOk16 : (List.range' 960 4).all (mapOk Tryz.prog) = true := by kernel_rfl
theorem globs_fine : Tryz.prog.globals.all (fun g => decide (g.type < Tryz.prog.types.size)) = true := by kernel_rfl
theorem funs_fine : Tryz.prog.funcs.all (fun f => f.params.all fun t => decide (t < Tryz.prog.types.size)) = true := by
  rw [types_size, ← Array.all_toList]
  kernel_rfl
theorem laidOut : laidOutB Tryz.prog = true := by
  unfold laidOutB
  rw [globs_fine, funs_fine, types_size, types_cut]
  simp only [List.all_append, fine0, fine1, fine2, fine3, fine4, fine5, fine6, fine7, fine8, fine9, fine10, fine11, fine12, fine13, fine14, fine15, fine16, Bool.and_true]
theorem mapsOk : mapsRowed Tryz.prog = true := by
  have h : mapsRowed Tryz.prog = (List.range Tryz.prog.types.size).all (mapOk Tryz.prog) := rfl
  rw [h, types_size, types_cut]
  simp only [List.all_append, mapOk0, mapOk1, mapOk2, mapOk3, mapOk4, mapOk5, mapOk6, mapOk7, mapOk8, mapOk9, mapOk10, mapOk11, mapOk12, mapOk13, mapOk14, mapOk15, mapOk16, Bool.and_true]

theorem rootAt0 : ((List.range' 0 40).filter fun i => (Tryz.prog.funcs[i]?).any (·.name == "priceoffice/priceofficelaw42.ScriptLong")) = [3] := by kernel_rfl
theorem rootAt1 : ((List.range' 40 40).filter fun i => (Tryz.prog.funcs[i]?).any (·.name == "priceoffice/priceofficelaw42.ScriptLong")) = [] := by kernel_rfl
theorem rootAt2 : ((List.range' 80 40).filter fun i => (Tryz.prog.funcs[i]?).any (·.name == "priceoffice/priceofficelaw42.ScriptLong")) = [] := by kernel_rfl
theorem rootAt3 : ((List.range' 120 40).filter fun i => (Tryz.prog.funcs[i]?).any (·.name == "priceoffice/priceofficelaw42.ScriptLong")) = [] := by kernel_rfl
theorem rootAt4 : ((List.range' 160 40).filter fun i => (Tryz.prog.funcs[i]?).any (·.name == "priceoffice/priceofficelaw42.ScriptLong")) = [] := by kernel_rfl
theorem rootAt5 : ((List.range' 200 40).filter fun i => (Tryz.prog.funcs[i]?).any (·.name == "priceoffice/priceofficelaw42.ScriptLong")) = [] := by kernel_rfl
theorem rootAt6 : ((List.range' 240 40).filter fun i => (Tryz.prog.funcs[i]?).any (·.name == "priceoffice/priceofficelaw42.ScriptLong")) = [] := by kernel_rfl
theorem rootAt7 : ((List.range' 280 40).filter fun i => (Tryz.prog.funcs[i]?).any (·.name == "priceoffice/priceofficelaw42.ScriptLong")) = [] := by kernel_rfl
theorem rootAt8 : ((List.range' 320 40).filter fun i => (Tryz.prog.funcs[i]?).any (·.name == "priceoffice/priceofficelaw42.ScriptLong")) = [] := by kernel_rfl
theorem rootAt9 : ((List.range' 360 40).filter fun i => (Tryz.prog.funcs[i]?).any (·.name == "priceoffice/priceofficelaw42.ScriptLong")) = [] := by kernel_rfl
theorem rootAt10 : ((List.range' 400 40).filter fun i => (Tryz.prog.funcs[i]?).any (·.name == "priceoffice/priceofficelaw42.ScriptLong")) = [] := by kernel_rfl
theorem rootAt11 : ((List.range' 440 40).filter fun i => (Tryz.prog.funcs[i]?).any (·.name == "priceoffice/priceofficelaw42.ScriptLong")) = [] := by kernel_rfl
theorem rootAt12 : ((List.range' 480 40).filter fun i => (Tryz.prog.funcs[i]?).any (·.name == "priceoffice/priceofficelaw42.ScriptLong")) = [] := by kernel_rfl
theorem rootAt13 : ((List.range' 520 40).filter fun i => (Tryz.prog.funcs[i]?).any (·.name == "priceoffice/priceofficelaw42.ScriptLong")) = [] := by kernel_rfl
theorem rootAt14 : ((List.range' 560 40).filter fun i => (Tryz.prog.funcs[i]?).any (·.name == "priceoffice/priceofficelaw42.ScriptLong")) = [] := by kernel_rfl
theorem rootAt15 : ((List.range' 600 40).filter fun i => (Tryz.prog.funcs[i]?).any (·.name == "priceoffice/priceofficelaw42.ScriptLong")) = [] := by kernel_rfl
theorem rootAt16 : ((List.range' 640 40).filter fun i => (Tryz.prog.funcs[i]?).any (·.name == "priceoffice/priceofficelaw42.ScriptLong")) = [] := by kernel_rfl
theorem rootAt17 : ((List.range' 680 40).filter fun i => (Tryz.prog.funcs[i]?).any (·.name == "priceoffice/priceofficelaw42.ScriptLong")) = [] := by kernel_rfl
theorem rootAt18 : ((List.range' 720 40).filter fun i => (Tryz.prog.funcs[i]?).any (·.name == "priceoffice/priceofficelaw42.ScriptLong")) = [] := by kernel_rfl
theorem rootAt19 : ((List.range' 760 40).filter fun i => (Tryz.prog.funcs[i]?).any (·.name == "priceoffice/priceofficelaw42.ScriptLong")) = [] := by kernel_rfl
theorem rootAt20 : ((List.range' 800 23).filter fun i => (Tryz.prog.funcs[i]?).any (·.name == "priceoffice/priceofficelaw42.ScriptLong")) = [] := by kernel_rfl
theorem rootAt_is : Tryz.prog.funcNamed "priceoffice/priceofficelaw42.ScriptLong" = some 3 := by
  unfold Program.funcNamed
  rw [funcs_size, range_cut]
  simp only [List.filter_append, rootAt0, rootAt1, rootAt2, rootAt3, rootAt4, rootAt5, rootAt6, rootAt7, rootAt8, rootAt9, rootAt10, rootAt11, rootAt12, rootAt13, rootAt14, rootAt15, rootAt16, rootAt17, rootAt18, rootAt19, rootAt20, List.nil_append, List.append_nil]

theorem varsAt0 : ((List.range' 0 40).filter fun i => (Tryz.prog.funcs[i]?).any (·.name == "gosem.cut.vars")) = [] := by kernel_rfl
theorem varsAt1 : ((List.range' 40 40).filter fun i => (Tryz.prog.funcs[i]?).any (·.name == "gosem.cut.vars")) = [] := by kernel_rfl
theorem varsAt2 : ((List.range' 80 40).filter fun i => (Tryz.prog.funcs[i]?).any (·.name == "gosem.cut.vars")) = [] := by kernel_rfl
theorem varsAt3 : ((List.range' 120 40).filter fun i => (Tryz.prog.funcs[i]?).any (·.name == "gosem.cut.vars")) = [] := by kernel_rfl
theorem varsAt4 : ((List.range' 160 40).filter fun i => (Tryz.prog.funcs[i]?).any (·.name == "gosem.cut.vars")) = [] := by kernel_rfl
theorem varsAt5 : ((List.range' 200 40).filter fun i => (Tryz.prog.funcs[i]?).any (·.name == "gosem.cut.vars")) = [] := by kernel_rfl
theorem varsAt6 : ((List.range' 240 40).filter fun i => (Tryz.prog.funcs[i]?).any (·.name == "gosem.cut.vars")) = [] := by kernel_rfl
theorem varsAt7 : ((List.range' 280 40).filter fun i => (Tryz.prog.funcs[i]?).any (·.name == "gosem.cut.vars")) = [] := by kernel_rfl
theorem varsAt8 : ((List.range' 320 40).filter fun i => (Tryz.prog.funcs[i]?).any (·.name == "gosem.cut.vars")) = [] := by kernel_rfl
theorem varsAt9 : ((List.range' 360 40).filter fun i => (Tryz.prog.funcs[i]?).any (·.name == "gosem.cut.vars")) = [] := by kernel_rfl
theorem varsAt10 : ((List.range' 400 40).filter fun i => (Tryz.prog.funcs[i]?).any (·.name == "gosem.cut.vars")) = [] := by kernel_rfl
theorem varsAt11 : ((List.range' 440 40).filter fun i => (Tryz.prog.funcs[i]?).any (·.name == "gosem.cut.vars")) = [] := by kernel_rfl
theorem varsAt12 : ((List.range' 480 40).filter fun i => (Tryz.prog.funcs[i]?).any (·.name == "gosem.cut.vars")) = [] := by kernel_rfl
theorem varsAt13 : ((List.range' 520 40).filter fun i => (Tryz.prog.funcs[i]?).any (·.name == "gosem.cut.vars")) = [] := by kernel_rfl
theorem varsAt14 : ((List.range' 560 40).filter fun i => (Tryz.prog.funcs[i]?).any (·.name == "gosem.cut.vars")) = [] := by kernel_rfl
theorem varsAt15 : ((List.range' 600 40).filter fun i => (Tryz.prog.funcs[i]?).any (·.name == "gosem.cut.vars")) = [] := by kernel_rfl
theorem varsAt16 : ((List.range' 640 40).filter fun i => (Tryz.prog.funcs[i]?).any (·.name == "gosem.cut.vars")) = [] := by kernel_rfl
theorem varsAt17 : ((List.range' 680 40).filter fun i => (Tryz.prog.funcs[i]?).any (·.name == "gosem.cut.vars")) = [] := by kernel_rfl
theorem varsAt18 : ((List.range' 720 40).filter fun i => (Tryz.prog.funcs[i]?).any (·.name == "gosem.cut.vars")) = [] := by kernel_rfl
theorem varsAt19 : ((List.range' 760 40).filter fun i => (Tryz.prog.funcs[i]?).any (·.name == "gosem.cut.vars")) = [] := by kernel_rfl
theorem varsAt20 : ((List.range' 800 23).filter fun i => (Tryz.prog.funcs[i]?).any (·.name == "gosem.cut.vars")) = [822] := by kernel_rfl
theorem varsAt_is : Tryz.prog.funcNamed "gosem.cut.vars" = some 822 := by
  unfold Program.funcNamed
  rw [funcs_size, range_cut]
  simp only [List.filter_append, varsAt0, varsAt1, varsAt2, varsAt3, varsAt4, varsAt5, varsAt6, varsAt7, varsAt8, varsAt9, varsAt10, varsAt11, varsAt12, varsAt13, varsAt14, varsAt15, varsAt16, varsAt17, varsAt18, varsAt19, varsAt20, List.nil_append, List.append_nil]

end Go.Proofs.YthpocgdmfphlgaaGreatDoor
