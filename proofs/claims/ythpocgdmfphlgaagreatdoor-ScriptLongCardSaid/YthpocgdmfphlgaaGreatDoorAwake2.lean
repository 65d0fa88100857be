/- Run on that script prints the errors 61 and 423. -/
import Derived.Test.YthpocgdmfphlgaaGreatDoorAwake
import Derived.Laws.EntriesVeiled
import Derived.Laws.OwnMore
namespace Go.Proofs.YthpocgdmfphlgaaGreatDoor.SL
open Go.RowKit Go.Sort

theorem owns_chg {S : Nat → Prop} {w w' : World} {base : Nat} {e : TypeId} {size n : Nat} {v : Value} {xs : List Value} (h : w.ownsRow base e size v n xs) (hc : Chg S w w') (hs : ∀ k, S k → k < base) : w'.ownsRow base e size v n xs := by
  obtain ⟨hl, h | ⟨g, cap, cur, hv, hb, hg, rest⟩⟩ := h
  · exact ⟨hl, .inl h⟩
  · exact ⟨hl, .inr ⟨g, cap, cur, hv, hb, by rw [hc.block g (lt_of hg) (fun h => by have := hs g h; omega)]; exact hg, rest⟩⟩

theorem Chg.alloc {S : Nat → Prop} (w : World) (o : Obj) : Chg S w (w.alloc o) := Chg.of_below ((Below.refl _ _).alloc (Nat.le_refl _) _)

set_option maxHeartbeats 4000000 in
set_option maxRecDepth 100000 in
theorem run_awake (w : World) (hw : Env w) :
    Calls Tryz.prog 5 #[.string (bs tScript)] w fun e w' => e = .returned (.tuple #[.string (bs (errLine 61 ++ errLine 423)), .int .i64 0]) ∧ Below w.heap.size w w' := by
  have hmm := @run_makeMap Tryz.prog
  have hC := commands_any w
  have hsz : (bs tScript).size ≤ 65536 := by decide
  have HC := Lib.hid hC
  clear hC
  obtain ⟨i0, hi, hz0, hz1, hz2⟩ := info_parts info53
  have hb1 := Tab.world_below (tabOf w.heap.size cmds) w
  have hmap := Tab.world_map (tabOf w.heap.size cmds) w
  have hform := Tab.world_rest (tabOf w.heap.size cmds) w 22 _ (tab_form w.heap.size)
  have hkeys := tab_keys w.heap.size
  have hfo := find_open w.heap.size
  have hfs := find_show w.heap.size
  rw [tab_clock] at hmap
  have HFO := Lib.hid hfo; have HFS := Lib.hid hfs; have HK := Lib.hid hkeys
  clear hfo hfs hkeys
  obtain ⟨n, hn⟩ : ∃ n, n = w.heap.size := ⟨_, rfl⟩
  rw [← hn] at hb1 hmap hform HFO HFS HK
  generalize (tabOf n cmds).es = ES at hmap HFO HFS HK
  have hcw : (tabOf w.heap.size cmds).world w = (tabOf n cmds).world w := by rw [hn]
  generalize (tabOf n cmds).world w = w1 at hb1 hmap hform hcw
  have HCW := Lib.hid hcw
  have HN := Lib.hid hn
  clear hcw hn
  have hE1 : Env w1 := hw.below (HN.out ▸ hb1)
  go_enter Tryz.func5, Tryz.ntmps5
  go_wp2_with fail
  refine HC.out.mono ?_
  rw [HCW.out, ← HN.out]
  rintro e w' ⟨rfl, hw'⟩
  obtain rfl : w1 = w' := hw'.symm
  obtain ⟨m, hm⟩ := hE1.maxLen
  have hm2 : (w1.alloc (.map #[] 0)).cell? ⟨0, 0, none⟩ = some (.int .i64 m) := by rw [World.cell?_alloc_past _ _ _ hE1.pos]; exact hm
  have S := Tryz.strings_Split (bs tScript) ⟨#[10]⟩ m (w1.alloc (.map #[] 0)) (by decide) hm2 (by decide)
  rw [aw_count, aw_split] at S
  have HS := Lib.hid S
  clear S hm hm2
  go_wp2_with fail
  refine HS.out.mono ?_
  rintro e w' ⟨rfl, rfl⟩
  go_wp2_with fail
  have hn := HN.out
  have hsn : n < w1.heap.size := lt_of hmap
  have hB0 : Below w.heap.size w ((w1.alloc (.map #[] 0)).alloc (.cells #[.string (bs tOpen), .string (bs tLine2), .string (bs [])] 9)) := by
    rw [hn] at hb1
    exact (hb1.alloc hb1.size _).alloc (by simp; have := hb1.size; omega) _
  have m0 : ((w1.alloc (.map #[] 0)).alloc (.cells #[.string (bs tOpen), .string (bs tLine2), .string (bs [])] 9)).heap[n]? = some (.map ES 27) := by
    rw [Below.heap_alloc _ _ _ (by simp; omega), Below.heap_alloc _ _ _ hsn]; exact hmap
  have f0 : ((w1.alloc (.map #[] 0)).alloc (.cells #[.string (bs tOpen), .string (bs tLine2), .string (bs [])] 9)).heap[n + 23]? = some (.cells #[.int .i64 0, .int .i64 4] 68 (0, 0)) := by
    have hform' : w1.heap[n + 23]? = some (.cells #[.int .i64 0, .int .i64 4] 68 (0, 0)) := hform
    have := lt_of hform'
    rw [Below.heap_alloc _ _ _ (by simp; omega), Below.heap_alloc _ _ _ this]; exact hform'
  have s0 : ((w1.alloc (.map #[] 0)).alloc (.cells #[.string (bs tOpen), .string (bs tLine2), .string (bs [])] 9)).heap[w1.heap.size]? = some (.map #[] 0) := by
    rw [Below.heap_alloc _ _ _ (by simp)]; exact heap_alloc_new w1 _
  have l0 : ((w1.alloc (.map #[] 0)).alloc (.cells #[.string (bs tOpen), .string (bs tLine2), .string (bs [])] 9)).heap[w1.heap.size + 1]? = some (.cells #[.string (bs tOpen), .string (bs tLine2), .string (bs [])] 9 (0, 0)) := by
    have := heap_alloc_new (w1.alloc (.map #[] 0)) (.cells #[.string (bs tOpen), .string (bs tLine2), .string (bs [])] 9); simpa using this
  generalize (w1.alloc (.map #[] 0)).alloc (.cells #[.string (bs tOpen), .string (bs tLine2), .string (bs [])] 9) = W0 at *
  have hsg : n + 23 < w1.heap.size := lt_of hform
  obtain ⟨sg, hsgd⟩ : ∃ sg, w1.heap.size = sg := ⟨_, rfl⟩
  have hwn : w.heap.size ≤ n := by omega
  rw [hsgd] at s0 l0 hsn hsg ⊢
  clear hmm hsz HC hmap hform hb1 hE1 HS HCW hsgd hn w1
  have hne1 : (bs tOpen).toList.isEmpty = false := by rw [ByteArray.toList_eq]; rfl
  have hne2 : (bs tLine2).toList.isEmpty = false := by rw [ByteArray.toList_eq]; rfl
  have hne3 : (bs []).toList.isEmpty = true := by rw [ByteArray.toList_eq]; rfl
  have hp1 : 0 < (bs tOpen).size := by decide
  have hp2 : 0 < (bs tLine2).size := by decide
  have hx1 : (bs tOpen)[0] = 111 := rfl
  have hx2 : (bs tLine2)[0] = 115 := rfl
  have HcO := fun (W : World) (hE : Env W) => cut_no tOpen W hE (by decide) cut_open
  have HcS := fun (W : World) (hE : Env W) => cut_yes tLine2 tShow txtBoth W hE (by decide) cut_line2
  have HCO := Lib.hid HcO; have HCS := Lib.hid HcS
  clear HcO HcS
  have a0 : W0.cell? ⟨sg + 1, 0, none⟩ = some (.string (bs tOpen)) := by rw [cell_of l0]; rfl
  refine wp_loop_rounds 4 ?_
  rw [rounds_succ]
  go_wp2_with fail
  refine (HCO.out _ (hw.below hB0)).mono ?_
  rintro e w2 ⟨rfl, hb2⟩
  have m2 : w2.heap[n]? = some (.map ES 27) := by rw [hb2.block _ (lt_of m0)]; exact m0
  have lk := run_lookup_hit Tryz.underlying30 Tryz.underlying9 w2 n ES 27 m2 HK.out (bs tOpen) _ _ HFO.out
  go_wp2_with fail
  refine (args_none 32 _).mono ?_
  rintro e w3 ⟨⟨ga, gc, rfl⟩, hb3⟩
  have hb23 : Below w2.heap.size w2 w3 := ((Below.refl _ _).alloc (Nat.le_refl _) _).trans (hb3.mono (by simp))
  have C3 : w3.heap[w2.heap.size]? = some (.cells #[.slice none 0 0, .int .i64 0, .string ⟨#[]⟩, .func (.func 32) #[] #[]] 41 (0, 0)) := by
    rw [hb3.block _ (by simp)]; exact heap_alloc_new w2 _
  have hc2 : w3.cell? ⟨w2.heap.size, 2, none⟩ = some (.string ⟨#[]⟩) := by rw [cell_of C3]; rfl
  have hlt3 : w2.heap.size < w3.heap.size := lt_of C3
  have s3 : w3.heap[sg]? = some (.map #[] 0) := by
    have h1 := lt_of s0
    have h2 := hb2.size
    rw [hb23.block _ (by omega), hb2.block _ h1]; exact s0
  have s3' : (w3.alloc (.cells #[.slice ga 0 gc] 43)).heap[sg]? = some (.map #[] 0) := by rw [Below.heap_alloc _ _ _ (lt_of s3)]; exact s3
  obtain ⟨w4, hu, s4, ch4⟩ := upd (w3.alloc (.cells #[.slice ga 0 gc] 43)) sg #[] 0 s3' (by intro e he; simp at he) (bs tOpen) rfl (.bool true)
  have hsz4 : w3.heap.size + 1 ≤ w4.heap.size := by have := ch4.size; simpa using this
  go_wp2_with (at_builtin; refine wpList_append_own _ rfl _ _ 33 rfl (sg + 2) 47 i0 .nilFunc 1 8 Tryz.underlying33 hi hz0 hz1 hz2 rfl (by decide) _ _ _ rfl (World.ownsRow_nil _ _ _ _) ⟨w4.heap.size, 0, none⟩ 1 1 [.func (.func 11) #[] #[.pointer (some ⟨w2.heap.size, 0, none⟩), .pointer (some ⟨w3.heap.size, 0, none⟩)]] rfl rfl ?c1 ?c2 ?c3 ?c4 ?c5 ?_)
  case c1 => exact fun j u hj => cell_one_new _ _ _ j u hj
  case c2 => intro u hu; simp at hu; subst hu; rfl
  case c3 => unfold maxLen; omega
  case c4 => omega
  case c5 => have := lt_of s4; have := lt_of l0; have := hb2.size; simp; omega
  intro v5 w5 hown5 hg5 _
  have h35 : Chg (· = sg) (w3.alloc (.cells #[.slice ga 0 gc] 43)) w5 := ch4.trans ((Chg.alloc w4 _).trans (Chg.of_grown hg5 (fun k hk => by cases hk)))
  have h05 : Chg (· = sg) W0 w5 := (Chg.of_below hb2).trans ((Chg.of_below hb23).trans ((Chg.alloc w3 _).trans h35))
  have hl0 := lt_of l0
  have hsz2 := hb2.size
  have hb5 : Below w.heap.size w w5 := hB0.trans (h05.below hB0.size (fun k hk => by omega))
  have m5 : w5.heap[n]? = some (.map ES 27) := by rw [h05.block n (lt_of m0) (by omega)]; exact m0
  have f5 : w5.heap[n + 23]? = some (.cells #[.int .i64 0, .int .i64 4] 68 (0, 0)) := by rw [h05.block _ (lt_of f0) (by omega)]; exact f0
  have l5 : w5.heap[sg + 1]? = some (.cells #[.string (bs tOpen), .string (bs tLine2), .string (bs [])] 9 (0, 0)) := by rw [h05.block _ hl0 (by omega)]; exact l0
  have s5 : w5.heap[sg]? = some (.map (#[].push { key := .string (bs tOpen), val := .bool true, born := 0 }) 1) := by
    rw [hg5.block _ (by have := lt_of s4; simp; omega) (by simp [Value.ownBlock]), Below.heap_alloc _ _ _ (lt_of s4)]; exact s4
  have C5 : w5.heap[w2.heap.size]? = some (.cells #[.slice none 0 0, .int .i64 0, .string ⟨#[]⟩, .func (.func 32) #[] #[]] 41 (0, 0)) := by
    rw [h35.block _ (by simp; omega) (by omega), Below.heap_alloc _ _ _ (lt_of C3)]; exact C3
  have A5 : w5.heap[w3.heap.size]? = some (.cells #[.slice ga 0 gc] 43 (0, 0)) := by
    rw [h35.block _ (by simp) (by omega)]; exact heap_alloc_new w3 _
  have hcb5 : sg + 1 < w2.heap.size := by omega
  have hab5 : sg + 1 < w3.heap.size := by omega
  obtain ⟨cb, hcb⟩ : ∃ cb, cb = w2.heap.size := ⟨_, rfl⟩
  obtain ⟨ab, hab⟩ : ∃ ab, ab = w3.heap.size := ⟨_, rfl⟩
  rw [← hcb] at hown5 C5 hcb5
  rw [← hab] at hown5 A5 hab5
  clear hg5 h35 h05 hsz2 hcb hab s4 ch4 hu hsz4 s3 s3' hc2 C3 hb23 hb3 lk m2 hb2 hB0 m0 f0 s0 l0 a0 hlt3 hl0 hne1 hp1 hx1 HCO HFO
  go_wp2
  rw [rounds_succ]
  have hE5 := hw.below hb5
  have a1 : w5.cell? ⟨sg + 1, 1, none⟩ = some (.string (bs tLine2)) := by rw [cell_of l5]; rfl
  go_wp2_with fail
  refine (HCS.out _ hE5).mono ?_
  rintro e w6 ⟨rfl, hb6⟩
  have m6 : w6.heap[n]? = some (.map ES 27) := by rw [hb6.block _ (lt_of m5)]; exact m5
  have f6 : w6.heap[n + 23]? = some (.cells #[.int .i64 0, .int .i64 4] 68 (0, 0)) := by rw [hb6.block _ (lt_of f5)]; exact f5
  have s6 : w6.heap[sg]? = some (.map (#[].push { key := .string (bs tOpen), val := .bool true, born := 0 }) 1) := by rw [hb6.block _ (lt_of s5)]; exact s5
  have lk := run_lookup_hit Tryz.underlying30 Tryz.underlying9 w6 n ES 27 m6 HK.out (bs tShow) _ _ HFS.out
  have hb06 : Below w.heap.size w w6 := hb5.trans (hb6.mono hb5.size)
  have hf6 := lt_of f6
  go_wp2_with fail
  refine (args_show _ (n + 23) _ ((hw.below hb06).below ((Below.refl _ _).alloc (Nat.le_refl _) _)) (by simp; omega) (by rw [World.cell?_alloc_past _ _ _ hf6, cell_of f6]; rfl) (by rw [World.cell?_alloc_past _ _ _ hf6, cell_of f6]; rfl)).mono ?_
  rintro e w7 ⟨⟨ga', gn', gc', rfl⟩, hb7⟩
  have hb67 : Below w6.heap.size w6 w7 := ((Below.refl _ _).alloc (Nat.le_refl _) _).trans (hb7.mono (by simp))
  have C7 : w7.heap[w6.heap.size]? = some (.cells #[.slice (some ⟨n + 23, 0, none⟩) 2 2, .int .i64 0, .string ⟨#[]⟩, .func (.func 50) #[] #[.pointer (some ⟨n + 24, 0, none⟩)]] 41 (0, 0)) := by
    rw [hb7.block _ (by simp)]; exact heap_alloc_new w6 _
  have hc7 : w7.cell? ⟨w6.heap.size, 2, none⟩ = some (.string ⟨#[]⟩) := by rw [cell_of C7]; rfl
  have hlt7 : w6.heap.size < w7.heap.size := lt_of C7
  have s7 : w7.heap[sg]? = some (.map (#[].push { key := .string (bs tOpen), val := .bool true, born := 0 }) 1) := by rw [hb67.block _ (lt_of s6)]; exact s6
  have s7' : (w7.alloc (.cells #[.slice ga' gn' gc'] 43)).heap[sg]? = some (.map (#[].push { key := .string (bs tOpen), val := .bool true, born := 0 }) 1) := by rw [Below.heap_alloc _ _ _ (lt_of s7)]; exact s7
  obtain ⟨w8, hu, s8, ch8⟩ := upd (w7.alloc (.cells #[.slice ga' gn' gc'] 43)) sg _ 1 s7' (by intro e he; simp at he; subst he; exact ⟨_, rfl⟩) (bs tShow) (by decide +kernel) (.bool true)
  have hsz8 : w7.heap.size + 1 ≤ w8.heap.size := by have := ch8.size; simpa using this
  have h78 : Chg (· = sg) w5 w8 := (Chg.of_below hb6).trans ((Chg.of_below hb67).trans ((Chg.alloc w7 _).trans ch8))
  have hown8 := owns_chg hown5 h78 (fun k hk => by omega)
  go_wp2_with (at_builtin; refine wpList_append_own _ rfl _ _ 33 rfl (sg + 2) 47 i0 .nilFunc 1 8 Tryz.underlying33 hi hz0 hz1 hz2 rfl (by decide) _ _ _ rfl (hown8.alloc _) ⟨w8.heap.size, 0, none⟩ 1 1 [.func (.func 11) #[] #[.pointer (some ⟨w6.heap.size, 0, none⟩), .pointer (some ⟨w7.heap.size, 0, none⟩)]] rfl rfl ?d1 ?d2 ?d3 ?d4 ?d5 ?_)
  case d1 => exact fun j u hj => cell_one_new _ _ _ j u hj
  case d2 => intro u hu; simp at hu; subst hu; rfl
  case d3 => unfold maxLen; omega
  case d4 => omega
  case d5 => have := lt_of s8; have := lt_of l5; have := h78.size; simp; omega
  intro v9 w9 hown9 hg9 _
  obtain ⟨g5, hg5e, hg5l, hg5h⟩ : ∃ g5, v5.ownBlock = some g5 ∧ sg + 2 ≤ g5 ∧ ∃ cur, w5.heap[g5]? = some (.cells cur 47 (0, 0)) := by
    rcases hown5.2 with ⟨_, h0⟩ | ⟨g, cap, cur, hv, hb, hg, _⟩
    · omega
    · exact ⟨g, by rw [hv]; rfl, hb, cur, hg⟩
  obtain ⟨cur5, hcur5⟩ := hg5h
  have hg5lt := lt_of hcur5
  have hl5 := lt_of l5
  have h89 : Chg (fun k => k = sg ∨ k = g5) (w7.alloc (.cells #[.slice ga' gn' gc'] 43)) w9 := (ch8.mono (fun k hk => .inl hk)).trans ((Chg.alloc w8 _).trans (Chg.of_grown hg9 (fun k hk => by rw [hg5e] at hk; cases hk; exact .inr rfl)))
  have h59 : Chg (fun k => k = sg ∨ k = g5) w5 w9 := (Chg.of_below hb6).trans ((Chg.of_below hb67).trans ((Chg.alloc w7 _).trans h89))
  have hs56 := hb6.size
  have hs67 := hb67.size
  have hb9 : Below w.heap.size w w9 := hb5.trans (h59.below hb5.size (fun k hk => by omega))
  have ncb : cb ≠ g5 := by rintro rfl; rw [C5] at hcur5; simp at hcur5
  have nab : ab ≠ g5 := by rintro rfl; rw [A5] at hcur5; simp at hcur5
  have l9 : w9.heap[sg + 1]? = some (.cells #[.string (bs tOpen), .string (bs tLine2), .string (bs [])] 9 (0, 0)) := by rw [h59.block _ hl5 (by omega)]; exact l5
  have C9 : w9.heap[cb]? = some (.cells #[.slice none 0 0, .int .i64 0, .string ⟨#[]⟩, .func (.func 32) #[] #[]] 41 (0, 0)) := by rw [h59.block _ (lt_of C5) (by omega)]; exact C5
  have A9 : w9.heap[ab]? = some (.cells #[.slice ga 0 gc] 43 (0, 0)) := by rw [h59.block _ (lt_of A5) (by omega)]; exact A5
  have D9 : w9.heap[w6.heap.size]? = some (.cells #[.slice (some ⟨n + 23, 0, none⟩) 2 2, .int .i64 0, .string ⟨#[]⟩, .func (.func 50) #[] #[.pointer (some ⟨n + 24, 0, none⟩)]] 41 (0, 0)) := by
    rw [h89.block _ (by simp; omega) (by omega), Below.heap_alloc _ _ _ hlt7]; exact C7
  have F9 : w9.heap[w7.heap.size]? = some (.cells #[.slice ga' gn' gc'] 43 (0, 0)) := by
    rw [h89.block _ (by simp) (by omega)]; exact heap_alloc_new w7 _
  obtain ⟨db, hdb⟩ : ∃ db, db = w6.heap.size := ⟨_, rfl⟩
  obtain ⟨fb, hfb⟩ : ∃ fb, fb = w7.heap.size := ⟨_, rfl⟩
  rw [← hdb] at hown9 D9
  rw [← hfb] at hown9 F9
  clear hg9 h89 h59 hs56 hs67 ncb nab hdb hfb s8 ch8 hu hsz8 s7 s7' hc7 C7 hb67 hb7 lk m6 f6 s6 hb6 m5 f5 s5 l5 C5 A5 a1 hlt7 h78 hown8 hown5 hcur5 hg5lt hl5 hg5l hg5e hf6 hne2 hp2 hx2 HCS HFS hE5 hb5 hb06
  go_wp2
  rw [rounds_succ]
  have a2 : w9.cell? ⟨sg + 1, 2, none⟩ = some (.string (bs [])) := by rw [cell_of l9]; rfl
  go_wp2_with fail
  obtain ⟨g, cap, rfl, hgl, hgs⟩ : ∃ g cap, v9 = .slice (some ⟨g, 0, none⟩) 2 cap ∧ sg + 2 ≤ g ∧ g < w9.heap.size := by
    rcases hown9.2 with ⟨_, h0⟩ | ⟨g, cap, cur, hv, hb, hg, _⟩
    · omega
    · exact ⟨g, cap, hv, hb, lt_of hg⟩
  have e0 : w9.cell? ⟨g, 0, none⟩ = some (.func (.func 11) #[] #[.pointer (some ⟨cb, 0, none⟩), .pointer (some ⟨ab, 0, none⟩)]) := by rw [hown9.cellAt 0 (by decide)]; rfl
  have e1 : w9.cell? ⟨g, 1, none⟩ = some (.func (.func 11) #[] #[.pointer (some ⟨db, 0, none⟩), .pointer (some ⟨fb, 0, none⟩)]) := by rw [hown9.cellAt 1 (by decide)]; rfl
  rw [rounds_succ]
  go_wp2
  refine wp_loop_rounds 3 ?_
  rw [rounds_succ]
  obtain ⟨Z, hZ⟩ : ∃ Z : Array Value, Z = #[.slice none 0 0, .slice none 0 0, .slice none 0 0, .slice none 0 0, .slice none 0 0, .slice none 0 0, .string ⟨#[]⟩, .int .i64 0, .int .i64 0, .slice none 0 0, .string ⟨#[]⟩, .int .i64 0, .int .i64 0, .int .i64 0, .slice none 0 0, .slice none 0 0, .slice none 0 0, .pointer none, .pointer none, .slice none 0 0] := ⟨_, rfl⟩
  rw [← hZ]
  have hO : Out w9.heap.size w9.heap.size Z [] (w9.alloc (.cells Z 66)) :=
    ⟨Nat.le_refl _, heap_alloc_new w9 _, by rw [hZ]; rfl, .inl (by rw [hZ]; rfl), ⟨.slice none 0 0, by rw [hZ]; rfl, World.ownsRow_nil _ _ _ _, by simp [Value.ownBlock]⟩⟩
  have k17 : Z[17]? = some (.pointer none) := by rw [hZ]; rfl
  have hz19 : Z[19]? = some (.slice none 0 0) := by rw [hZ]; rfl
  have hzs : Z.size = 20 := by rw [hZ]; rfl
  have hbA : Below w.heap.size w (w9.alloc (.cells Z 66)) := hb9.alloc hb9.size _
  have ON := open_nil _ _ Z [] _ (hw.below hbA) hO (by simp) (by simp) none 0 none 0 0 none 0 0 none 0 0 none 0 0 none 0 0 none 0 0 ⟨#[]⟩ 0 0 (by rw [hZ]; rfl) (by rw [hZ]; rfl) (by rw [hZ]; rfl) (by rw [hZ]; rfl) (by rw [hZ]; rfl) (by rw [hZ]; rfl) (by rw [hZ]; rfl) (by rw [hZ]; rfl) (by rw [hZ]; rfl) (by rw [hZ]; rfl) ga 0 gc
  have e0' : (w9.alloc (.cells Z 66)).cell? ⟨g, 0, none⟩ = _ := (World.cell?_alloc_past _ _ _ hgs).trans e0
  have C9' : (w9.alloc (.cells Z 66)).heap[cb]? = _ := (Below.heap_alloc _ _ _ (lt_of C9)).trans C9
  have A9' : (w9.alloc (.cells Z 66)).heap[ab]? = _ := (Below.heap_alloc _ _ _ (lt_of A9)).trans A9
  have D9' : (w9.alloc (.cells Z 66)).heap[db]? = _ := (Below.heap_alloc _ _ _ (lt_of D9)).trans D9
  have F9' : (w9.alloc (.cells Z 66)).heap[fb]? = _ := (Below.heap_alloc _ _ _ (lt_of F9)).trans F9
  have hhs : (w9.alloc (.cells Z 66)).heap.size = w9.heap.size + 1 := by simp
  have hdb := lt_of D9
  have hfb := lt_of F9
  have e1' : (w9.alloc (.cells Z 66)).cell? ⟨g, 1, none⟩ = _ := (World.cell?_alloc_past _ _ _ hgs).trans e1
  clear e0 e1 C9 A9 D9 F9 hown9 l9 a2 hb9 hZ
  generalize w9.alloc (.cells Z 66) = W at *
  have R1 := run1_38 w9.heap.size W cb ab ga 0 gc _ (fun e w' h => h.1) (by rw [cell_of C9']; rfl) (by rw [cell_of A9']; rfl) (Lib.hid ON)
  have HR1 := Lib.hid R1
  clear ON R1
  go_wp2_with fail
  refine HR1.out.mono ?_
  rintro e w10 ⟨rfl, v10, hO10, hc10⟩
  have hc10' : Chg (fun k => w9.heap.size ≤ k) W w10 := hc10.mono (fun k hk => by
    rcases hk with rfl | ⟨v, hv, hvk⟩
    · exact Nat.le_refl _
    · rw [hz19] at hv; cases hv; cases hvk)
  have hs10 := hc10'.size
  have e10 : w10.cell? ⟨g, 1, none⟩ = _ := (hc10'.cell (p := ⟨g, 1, none⟩) (by show g < _; omega) (by show ¬ (_ ≤ g); omega)).trans e1'
  have D10 : w10.heap[db]? = _ := (hc10'.block db (by omega) (by omega)).trans D9'
  have F10 : w10.heap[fb]? = _ := (hc10'.block fb (by omega) (by omega)).trans F9'
  have hb10 : Below w.heap.size w w10 := hbA.trans (hc10'.below hbA.size (fun k hk => by omega))
  have ON := opened_none _ _ _ _ _ (hw.below hb10) hO10 (by omega) (by decide +kernel) (by rw [Array.getElem?_setIfInBounds_ne (by decide), Array.getElem?_setIfInBounds_ne (by decide)]; exact k17) ga' gn' gc' (.pointer (some ⟨n + 24, 0, none⟩))
  have R2 := run1_76 w9.heap.size w10 db fb ga' gn' gc' _ _ (fun e w' h => h.1) (by rw [cell_of D10]; rfl) (by rw [cell_of F10]; rfl) (Lib.hid ON)
  have HR2 := Lib.hid R2
  clear ON R2 HR1
  go_wp2
  rw [rounds_succ]
  go_wp2_with fail
  refine HR2.out.mono ?_
  rintro e w11 ⟨rfl, v11, hO11, hc11⟩
  have hc11' : Chg (fun k => w9.heap.size ≤ k) w10 w11 := hc11.mono (fun k hk => by
    rcases hk with rfl | ⟨v, hv, hvk⟩
    · exact Nat.le_refl _
    · obtain ⟨v', hv', hown', _⟩ := hO10.buf
      rw [hv'] at hv; cases hv
      exact (hown'.lt k hvk).1)
  have hb11 : Below w.heap.size w w11 := hb10.trans (hc11'.below hb10.size (fun k hk => by omega))
  have BS := builderString _ _ _ _ _ hO11 (by decide)
  have HB := Lib.hid BS
  clear BS HR2
  go_wp2
  rw [rounds_succ]
  go_wp2_with fail
  refine HB.out.mono ?_
  rintro e w12 ⟨rfl, hb12⟩
  go_wp2
  go_ret2
  exact ⟨rfl, hb11.trans (hb12.mono (by have := hb11.size; have := hc11'.size; omega))⟩
end Go.Proofs.YthpocgdmfphlgaaGreatDoor.SL
