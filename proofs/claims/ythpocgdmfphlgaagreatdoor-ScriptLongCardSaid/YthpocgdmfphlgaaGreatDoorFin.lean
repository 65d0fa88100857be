/- For every integer ScriptLong returns true and leaves what it was handed as it was: no further condition. -/
import Derived.Test.YthpocgdmfphlgaaGreatDoorRows
import Derived.Test.YthpocgdmfphlgaaGreatDoorCards
import Derived.Test.YthpocgdmfphlgaaGreatDoorAwake3
import Derived.Test.YthpocgdmfphlgaaGreatDoorFactK
import Derived.Test.YthpocgdmfphlgaaGreatDoorWa
import Derived.Test.YthpocgdmfphlgaaGreatDoorWb
import Derived.Test.YthpocgdmfphlgaaGreatDoorWc
import Derived.Test.YthpocgdmfphlgaaGreatDoorWd
import Derived.Clock
import Derived.OpenVars
import Derived.OpenShut
import Derived.LaidMore
import Derived.Lay
import Derived.Stop.LaidErr
import Derived.Lib.LaidTab
import Derived.Shelf.Vars
import Derived.SevenTiedAt
namespace Go.Proofs.YthpocgdmfphlgaaGreatDoor
open Go Go.ChangeShapes Go.WideShapes Go.ChangeAt Go.RowKit Go.Clock

theorem own : ownKnob Tryz.prog.godebug = none := by kernel_rfl
theorem gPow : Tryz.prog.globalNamed "internal/strconv.uint64pow10" = some 4 := by kernel_rfl
theorem gBru : Tryz.prog.globalNamed "math/bits.deBruijn64tab" = some 8 := by kernel_rfl
theorem gSyn : Tryz.prog.globalNamed "strconv.ErrSyntax" = some 5 := by kernel_rfl
theorem gRng : Tryz.prog.globalNamed "strconv.ErrRange" = some 6 := by kernel_rfl
theorem tPow : (Tryz.prog.globals[4]?).map (·.type) = some 490 := by kernel_rfl
theorem tBru : (Tryz.prog.globals[8]?).map (·.type) = some 689 := by kernel_rfl
theorem tSyn : (Tryz.prog.globals[5]?).map (·.type) = some 195 := by kernel_rfl
theorem tRng : (Tryz.prog.globals[6]?).map (·.type) = some 195 := by kernel_rfl
theorem c1 : Tryz.prog.cellsOf 29 = 1 := by kernel_rfl
theorem c2 : Tryz.prog.cellsOf 490 = 20 := by kernel_rfl
theorem c3 : Tryz.prog.cellsOf 5 = 1 := by kernel_rfl
theorem c4 : Tryz.prog.cellsOf 689 = 64 := by kernel_rfl
def bruTab : List Int := [0, 1, 56, 2, 57, 49, 28, 3, 61, 58, 42, 50, 38, 29, 17, 4, 62, 47, 59, 36, 45, 43, 51, 22, 53, 39, 33, 30, 24, 18, 12, 5, 63, 55, 48, 27, 60, 41, 37, 16, 46, 35, 44, 21, 52, 32, 23, 11, 54, 26, 40, 15, 34, 20, 31, 10, 25, 14, 19, 9, 13, 8, 7, 6]

theorem iface_of_head {P : Program} {W : World} {n nm : String} {d : DataW Unit} {r : List (String × DataW Unit)} {g : Nat} {ti : TypeId} {ms : Array (String × TypeId)}
    (hg : P.globalNamed n = some g) (ht : (P.globals[g]?).map (·.type) = some ti) (hi : P.underlying ti = some (.interface ms)) (h : laidMet P ((n, .iface nm d) :: r) W) :
    ∃ u v, W.cell? ⟨g, 0, none⟩ = some (.iface u v) := by
  obtain ⟨ps, ⟨g0, t0, cs0, f0, p0, q0, hg0, ht0, hv0, hd0, _, _⟩, _⟩ := h
  obtain rfl := Option.some.inj (hg.symm.trans hg0)
  obtain rfl := Option.some.inj (ht.symm.trans ht0)
  obtain ⟨f1, u, v, hcs, _⟩ := iface_of_trod hi hd0
  refine ⟨u, v, ?_⟩
  have := World.var?_cell hg0 hv0 0
  rw [this, ← Array.getElem?_toList, hcs]
  rfl

/-- What the row's condition gives the walk. -/
theorem env_of {W : World} (h : laidMetH Tryz.prog Rows.scriptLongRow.laid W) (hsh : W.ShapedOpen Tryz.prog) : SL.Env W := by
  rw [MakeChecks.laidMetH_plain _ _ _ (by kernel_rfl)] at h
  have h1 := laidMet.tail h
  have h2 := laidMet.tail h1
  have h3 := laidMet.tail (laidMet.tail h2)
  have h4 := laidMet.tail h3
  have hpow : Lib.TabIs Tryz.prog W "internal/strconv.uint64pow10" .u64 Lib.pow10Tab :=
    Lib.tabIs_of_head gPow tPow Tryz.underlying490 Tryz.underlying29 c1 c2 h2
  have hbru : Lib.TabIs Tryz.prog W "math/bits.deBruijn64tab" .u8 bruTab :=
    Lib.tabIs_of_head gBru tBru Tryz.underlying689 Tryz.underlying5 c3 c4 h1
  have hcell := hbru.cell gBru 0 (by decide)
  obtain ⟨u0, v0, hc0⟩ := iface_of_head gRng tRng Tryz.underlying195 h3
  obtain ⟨u1, v1, hc1⟩ := iface_of_head gSyn tSyn Tryz.underlying195 h4
  have hm := Go.Proofs.cell_of_shapedOpen_int (P := Tryz.prog) (g := 0) (t := 3) (zero := #[.int .i64 0]) hsh (of_decide_eq_true (by kernel_rfl)) sh_row rfl sh_build sh_cells Tryz.underlying3
  have hsz : 8 < W.heap.size := World.block_lt_of_cell? W _ hcell
  exact ⟨by omega, hm, hpow, ⟨_, hc1, .inr ⟨_, _, rfl⟩⟩, ⟨_, hc0, .inr ⟨_, _, rfl⟩⟩⟩

set_option maxRecDepth 100000 in
theorem lifted (os : Os) (started : os.Started) (H : Type) (enc : TypeId × Value → H) (F : Stop.Interp) :
    ReturnsInHanded { calm := true } Tryz.checked os 3 .any (fun w args => (Rows.scriptLongSpec.pre enc Tryz.prog Tryz.f3 [] false w args ∧ laidMetH Tryz.prog Rows.scriptLongRow.laid w) ∧ sizedMet enc Tryz.prog Tryz.f3 (OpenSpec.ofChange Rows.scriptLongSpec) false w args)
      ((OpenSpec.ofChange Rows.scriptLongSpec).postWith enc Tryz.prog Tryz.f3 F (outsideKept [.timePasses]) false true false) := by
  refine returns_of_change (C := Tryz.checked) (X := fun w _ => laidMetH Tryz.prog Rows.scriptLongRow.laid w) (fun _ _ _ hh h => h.of_heap hh) own started (by kernel_rfl) Tryz.func3
    (witness_at (enc := enc) (C := Tryz.checked) (X := fun w _ => laidMetH Tryz.prog Rows.scriptLongRow.laid w) (World.laidAll Tryz.prog os Rows.scriptLongRow.laid) #[.int .i64 0] 8 (World.laidAll_os _ _ _) (wit_shaped os) (wit_ok os) (wit_pre os H enc) (wit_size os H enc)
      (by rw [MakeChecks.laidMetH_plain _ _ _ (by kernel_rfl)]; exact laidMet_laidAll _ (wit_fits os) (wit_ifaces os))) ?_
  intro W base args ds gs before hval0 hW _ _ hL hsh
  have hval : ∀ (j : Nat) t v, Tryz.f3.params[j]? = some t → args[j]? = some v → Value.okWide Tryz.prog W .any base t v := hval0
  have hW' := hW
  obtain ⟨p, q, hA0, hV, rfl, _, _⟩ := hW
  have hA : DataW.TrodAll enc Tryz.prog W 0 (fun _ => true) true Tryz.f3.params.toList args.toList ds p := hA0
  rw [Tryz.params3] at hA hval
  obtain ⟨v0, d0, rfl, rfl, h0⟩ := trodAll_one hA
  obtain ⟨x, rfl, rfl, rfl, wx⟩ := open_int Tryz.underlying3 (hval 0 3 v0 rfl rfl) h0
  obtain ⟨rfl, rfl⟩ := trodVars_none hV
  simp only [List.append_nil] at hW'
  refine (SL.long_any x W (env_of hL hsh)).mono fun e W' ⟨he, hb⟩ => ?_
  subst he
  have hsince : Since W.heap.size W W' := .of_below hb
  exact ⟨_, rfl, ⟨_, _, _, [], [], [], hW', trodAll_mk1 (shut_bool Tryz.underlying4 _), trodAll_mk1 (shut_int Tryz.underlying3 wx), rfl, hsince.2.frame _, fun h => by cases h⟩, hsince.1⟩

set_option maxRecDepth 100000 in
theorem scriptLong_holds : Rows.ScriptLongSaid :=
  holds_of_wide_time 3 Tryz.f3 rfl rfl rfl rfl rfl rfl rfl ⟨rfl, rfl, rfl, rfl, rfl⟩ rfl rfl rfl rfl rfl rootAt_is Tryz.func3 joined
    (of_decide_eq_true (by kernel_rfl)) (by unfold Func.isWrapper; first | (rw [if_pos (by decide +kernel)]; kernel_rfl) | (rw [if_neg (by decide +kernel)]; exact ⟨rfl, rfl⟩))
    (fun os started H enc _ F => lifted os started H enc F)
end Go.Proofs.YthpocgdmfphlgaaGreatDoor
