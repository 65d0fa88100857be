/- The function commands builds that table. -/
import Derived.Test.YthpocgdmfphlgaaGreatDoorCmd
namespace Go.Proofs.YthpocgdmfphlgaaGreatDoor.SL
open Go.RowKit
theorem tab0 (w : World) : w.alloc (.map #[] 0) = ({ es := #[], rest := #[] } : Tab).world w := by
  show ({ w with heap := w.heap.push (.map #[] 0) } : World) = _
  simp [Tab.world]
theorem gen_frame {P : Program} {ops : Array Oper} {Q : Exit → Act → World → Prop} {l : List Oper} {n : Nat} {a : Act} {w : World} (hG : Fr n a)
    (h : ∀ a', Fr n a' → wpList P ops Q l a' w) : wpList P ops Q l a w := h a hG
set_option maxHeartbeats 4000000 in
set_option maxRecDepth 100000 in
theorem commands_any (w : World) :
    Calls Tryz.prog 7 #[] w fun e w' => e = .returned (.map (some w.heap.size)) ∧ w' = (tabOf w.heap.size cmds).world w := by
  have hmm := @run_makeMap Tryz.prog
  go_enter Tryz.func7, Tryz.ntmps7
  iterate 13 go_step
  rw [tab0]
  have hk := KeysAre.nil
  refine gen_frame (n := w.heap.size) ⟨rfl, rfl, rfl⟩ ?_
  clear hmm
  intro a hG
  refine step_form (cmds[0]) hk (by decide) hG rfl (by decide) 2 3 (by decide) (by decide) (by decide) _ _ _ rfl rfl rfl rfl rfl rfl (fun a W => by simp [go_sem, Act.eval, cmds]) (fun a W b m hs => by simp [go_sem, Act.eval, Act.put, hs, cmds, bs]) rfl (by decide) ?_
  clear hG; replace hk := hk.add w.heap.size (cmds[0]); intro a hG
  refine step_form (cmds[1]) hk (by decide) hG rfl (by decide) 4 5 (by decide) (by decide) (by decide) _ _ _ rfl rfl rfl rfl rfl rfl (fun a W => by simp [go_sem, Act.eval, cmds]) (fun a W b m hs => by simp [go_sem, Act.eval, Act.put, hs, cmds, bs]) rfl (by decide) ?_
  clear hG; replace hk := hk.add w.heap.size (cmds[1]); intro a hG
  refine step_form (cmds[2]) hk (by decide) hG rfl (by decide) 6 7 (by decide) (by decide) (by decide) _ _ _ rfl rfl rfl rfl rfl rfl (fun a W => by simp [go_sem, Act.eval, cmds]) (fun a W b m hs => by simp [go_sem, Act.eval, Act.put, hs, cmds, bs]) rfl (by decide) ?_
  clear hG; replace hk := hk.add w.heap.size (cmds[2]); intro a hG
  refine step_form (cmds[3]) hk (by decide) hG rfl (by decide) 8 9 (by decide) (by decide) (by decide) _ _ _ rfl rfl rfl rfl rfl rfl (fun a W => by simp [go_sem, Act.eval, cmds]) (fun a W b m hs => by simp [go_sem, Act.eval, Act.put, hs, cmds, bs]) rfl (by decide) ?_
  clear hG; replace hk := hk.add w.heap.size (cmds[3]); intro a hG
  refine step_form (cmds[4]) hk (by decide) hG rfl (by decide) 10 11 (by decide) (by decide) (by decide) _ _ _ rfl rfl rfl rfl rfl rfl (fun a W => by simp [go_sem, Act.eval, cmds]) (fun a W b m hs => by simp [go_sem, Act.eval, Act.put, hs, cmds, bs]) rfl (by decide) ?_
  clear hG; replace hk := hk.add w.heap.size (cmds[4]); intro a hG
  refine step_form (cmds[5]) hk (by decide) hG rfl (by decide) 12 13 (by decide) (by decide) (by decide) _ _ _ rfl rfl rfl rfl rfl rfl (fun a W => by simp [go_sem, Act.eval, cmds]) (fun a W b m hs => by simp [go_sem, Act.eval, Act.put, hs, cmds, bs]) rfl (by decide) ?_
  clear hG; replace hk := hk.add w.heap.size (cmds[5]); intro a hG
  refine step_form (cmds[6]) hk (by decide) hG rfl (by decide) 14 15 (by decide) (by decide) (by decide) _ _ _ rfl rfl rfl rfl rfl rfl (fun a W => by simp [go_sem, Act.eval, cmds]) (fun a W b m hs => by simp [go_sem, Act.eval, Act.put, hs, cmds, bs]) rfl (by decide) ?_
  clear hG; replace hk := hk.add w.heap.size (cmds[6]); intro a hG
  refine step_form (cmds[7]) hk (by decide) hG rfl (by decide) 16 17 (by decide) (by decide) (by decide) _ _ _ rfl rfl rfl rfl rfl rfl (fun a W => by simp [go_sem, Act.eval, cmds]) (fun a W b m hs => by simp [go_sem, Act.eval, Act.put, hs, cmds, bs]) rfl (by decide) ?_
  clear hG; replace hk := hk.add w.heap.size (cmds[7]); intro a hG
  refine step_form (cmds[8]) hk (by decide) hG rfl (by decide) 18 19 (by decide) (by decide) (by decide) _ _ _ rfl rfl rfl rfl rfl rfl (fun a W => by simp [go_sem, Act.eval, cmds]) (fun a W b m hs => by simp [go_sem, Act.eval, Act.put, hs, cmds, bs]) rfl (by decide) ?_
  clear hG; replace hk := hk.add w.heap.size (cmds[8]); intro a hG
  refine step_form (cmds[9]) hk (by decide) hG rfl (by decide) 20 21 (by decide) (by decide) (by decide) _ _ _ rfl rfl rfl rfl rfl rfl (fun a W => by simp [go_sem, Act.eval, cmds]) (fun a W b m hs => by simp [go_sem, Act.eval, Act.put, hs, cmds, bs]) rfl (by decide) ?_
  clear hG; replace hk := hk.add w.heap.size (cmds[9]); intro a hG
  refine step_form (cmds[10]) hk (by decide) hG rfl (by decide) 22 23 (by decide) (by decide) (by decide) _ _ _ rfl rfl rfl rfl rfl rfl (fun a W => by simp [go_sem, Act.eval, cmds]) (fun a W b m hs => by simp [go_sem, Act.eval, Act.put, hs, cmds, bs]) rfl (by decide) ?_
  clear hG; replace hk := hk.add w.heap.size (cmds[10]); intro a hG
  refine step_form (cmds[11]) hk (by decide) hG rfl (by decide) 24 25 (by decide) (by decide) (by decide) _ _ _ rfl rfl rfl rfl rfl rfl (fun a W => by simp [go_sem, Act.eval, cmds]) (fun a W b m hs => by simp [go_sem, Act.eval, Act.put, hs, cmds, bs]) rfl (by decide) ?_
  clear hG; replace hk := hk.add w.heap.size (cmds[11]); intro a hG
  refine step_form (cmds[12]) hk (by decide) hG rfl (by decide) 26 27 (by decide) (by decide) (by decide) _ _ _ rfl rfl rfl rfl rfl rfl (fun a W => by simp [go_sem, Act.eval, cmds]) (fun a W b m hs => by simp [go_sem, Act.eval, Act.put, hs, cmds, bs]) rfl (by decide) ?_
  clear hG; replace hk := hk.add w.heap.size (cmds[12]); intro a hG
  refine step_form (cmds[13]) hk (by decide) hG rfl (by decide) 28 29 (by decide) (by decide) (by decide) _ _ _ rfl rfl rfl rfl rfl rfl (fun a W => by simp [go_sem, Act.eval, cmds]) (fun a W b m hs => by simp [go_sem, Act.eval, Act.put, hs, cmds, bs]) rfl (by decide) ?_
  clear hG; replace hk := hk.add w.heap.size (cmds[13]); intro a hG
  refine step_form (cmds[14]) hk (by decide) hG rfl (by decide) 30 31 (by decide) (by decide) (by decide) _ _ _ rfl rfl rfl rfl rfl rfl (fun a W => by simp [go_sem, Act.eval, cmds]) (fun a W b m hs => by simp [go_sem, Act.eval, Act.put, hs, cmds, bs]) rfl (by decide) ?_
  clear hG; replace hk := hk.add w.heap.size (cmds[14]); intro a hG
  refine step_form (cmds[15]) hk (by decide) hG rfl (by decide) 32 33 (by decide) (by decide) (by decide) _ _ _ rfl rfl rfl rfl rfl rfl (fun a W => by simp [go_sem, Act.eval, cmds]) (fun a W b m hs => by simp [go_sem, Act.eval, Act.put, hs, cmds, bs]) rfl (by decide) ?_
  clear hG; replace hk := hk.add w.heap.size (cmds[15]); intro a hG
  refine step_form (cmds[16]) hk (by decide) hG rfl (by decide) 34 35 (by decide) (by decide) (by decide) _ _ _ rfl rfl rfl rfl rfl rfl (fun a W => by simp [go_sem, Act.eval, cmds]) (fun a W b m hs => by simp [go_sem, Act.eval, Act.put, hs, cmds, bs]) rfl (by decide) ?_
  clear hG; replace hk := hk.add w.heap.size (cmds[16]); intro a hG
  refine step_form (cmds[17]) hk (by decide) hG rfl (by decide) 36 37 (by decide) (by decide) (by decide) _ _ _ rfl rfl rfl rfl rfl rfl (fun a W => by simp [go_sem, Act.eval, cmds]) (fun a W b m hs => by simp [go_sem, Act.eval, Act.put, hs, cmds, bs]) rfl (by decide) ?_
  clear hG; replace hk := hk.add w.heap.size (cmds[17]); intro a hG
  refine step_form (cmds[18]) hk (by decide) hG rfl (by decide) 38 39 (by decide) (by decide) (by decide) _ _ _ rfl rfl rfl rfl rfl rfl (fun a W => by simp [go_sem, Act.eval, cmds]) (fun a W b m hs => by simp [go_sem, Act.eval, Act.put, hs, cmds, bs]) rfl (by decide) ?_
  clear hG; replace hk := hk.add w.heap.size (cmds[18]); intro a hG
  refine step_bare (cmds[19]) hk (by decide) hG rfl rfl 40 (by decide) (by decide) _ _ rfl rfl rfl rfl (fun a W => by simp [go_sem, Act.eval, cmds, bs]) rfl ?_
  clear hG; replace hk := hk.add w.heap.size (cmds[19]); intro a hG
  refine step_opened (cmds[20]) hk (by decide) hG rfl rfl 41 42 (by decide) (by decide) (by decide) _ _ _ rfl rfl rfl rfl rfl rfl (fun a W => by simp [go_sem, Act.eval, cmds]) (fun a W f1 f2 f3 hs => by simp [go_sem, Act.eval, Act.put, hs, cmds, bs]) rfl (by decide) ?_
  clear hG; replace hk := hk.add w.heap.size (cmds[20]); intro a hG
  refine step_both (cmds[21]) hk (by decide) hG rfl (by decide) 43 44 45 (by decide) (by decide) (by decide) (by decide) _ _ _ _ rfl rfl rfl rfl rfl rfl rfl rfl (fun a W => by simp [go_sem, Act.eval, cmds]) (fun a W => by simp [go_sem, Act.eval, cmds]) (fun a W b m f1 f2 f3 hs ht => by simp [go_sem, Act.eval, Act.put, hs, ht, cmds, bs]) rfl (by decide) (by decide) ?_
  clear hG; replace hk := hk.add w.heap.size (cmds[21]); intro a hG
  refine step_both (cmds[22]) hk (by decide) hG rfl (by decide) 46 47 48 (by decide) (by decide) (by decide) (by decide) _ _ _ _ rfl rfl rfl rfl rfl rfl rfl rfl (fun a W => by simp [go_sem, Act.eval, cmds]) (fun a W => by simp [go_sem, Act.eval, cmds]) (fun a W b m f1 f2 f3 hs ht => by simp [go_sem, Act.eval, Act.put, hs, ht, cmds, bs]) rfl (by decide) (by decide) ?_
  clear hG; replace hk := hk.add w.heap.size (cmds[22]); intro a hG
  refine step_both (cmds[23]) hk (by decide) hG rfl (by decide) 49 50 51 (by decide) (by decide) (by decide) (by decide) _ _ _ _ rfl rfl rfl rfl rfl rfl rfl rfl (fun a W => by simp [go_sem, Act.eval, cmds]) (fun a W => by simp [go_sem, Act.eval, cmds]) (fun a W b m f1 f2 f3 hs ht => by simp [go_sem, Act.eval, Act.put, hs, ht, cmds, bs]) rfl (by decide) (by decide) ?_
  clear hG; replace hk := hk.add w.heap.size (cmds[23]); intro a hG
  refine step_both (cmds[24]) hk (by decide) hG rfl (by decide) 52 53 54 (by decide) (by decide) (by decide) (by decide) _ _ _ _ rfl rfl rfl rfl rfl rfl rfl rfl (fun a W => by simp [go_sem, Act.eval, cmds]) (fun a W => by simp [go_sem, Act.eval, cmds]) (fun a W b m f1 f2 f3 hs ht => by simp [go_sem, Act.eval, Act.put, hs, ht, cmds, bs]) rfl (by decide) (by decide) ?_
  clear hG; replace hk := hk.add w.heap.size (cmds[24]); intro a hG
  refine step_both (cmds[25]) hk (by decide) hG rfl (by decide) 55 56 57 (by decide) (by decide) (by decide) (by decide) _ _ _ _ rfl rfl rfl rfl rfl rfl rfl rfl (fun a W => by simp [go_sem, Act.eval, cmds]) (fun a W => by simp [go_sem, Act.eval, cmds]) (fun a W b m f1 f2 f3 hs ht => by simp [go_sem, Act.eval, Act.put, hs, ht, cmds, bs]) rfl (by decide) (by decide) ?_
  clear hG; replace hk := hk.add w.heap.size (cmds[25]); intro a hG
  refine step_both (cmds[26]) hk (by decide) hG rfl (by decide) 58 59 60 (by decide) (by decide) (by decide) (by decide) _ _ _ _ rfl rfl rfl rfl rfl rfl rfl rfl (fun a W => by simp [go_sem, Act.eval, cmds]) (fun a W => by simp [go_sem, Act.eval, cmds]) (fun a W b m f1 f2 f3 hs ht => by simp [go_sem, Act.eval, Act.put, hs, ht, cmds, bs]) rfl (by decide) (by decide) ?_
  clear hG; replace hk := hk.add w.heap.size (cmds[26]); intro a hG
  refine wpList_plain rfl (fun K hK => BigFrame.wp_move _ rfl (hK _ _ ?_))
  refine wpList_plain rfl (fun K hK => BigFrame.wp_assign _ rfl (hK _ _ ?_))
  have h61 : (a.put (some 61) (a.eval (.tmp 1))).eval (.tmp 61) = .map (some w.heap.size) := by rw [hG.eval1]; exact hG.get 61 (by decide) _
  have hG1 := hG.put 61 (by decide) (a.eval (.tmp 1))
  simp only []
  rw [h61]
  have h0 := hG1.get 0 (by decide) (.map (some w.heap.size))
  have hG2 := hG1.put 0 (by decide) (.map (some w.heap.size))
  generalize (a.put (some 61) (a.eval (.tmp 1))).put (some 0) (Value.map (some w.heap.size)) = b at h0 hG2 ⊢
  go_step
  go_step
  go_step
  go_step
  go_step
  exact bodyPost_ret (results_tmp rfl _ _ _) hG2.defers ⟨congrArg Ending.returned h0, rfl⟩
end Go.Proofs.YthpocgdmfphlgaaGreatDoor.SL
