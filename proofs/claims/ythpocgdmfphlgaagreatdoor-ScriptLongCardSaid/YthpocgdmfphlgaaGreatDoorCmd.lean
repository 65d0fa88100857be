/- Maps with string keys, and the table of commands as a list. -/
import Derived.Test.YthpocgdmfphlgaaGreatDoorProg
import Derived.WalkKit
import Derived.WalkLawsBesides
import Derived.WalkSpells
import Derived.Handy
import Derived.Maps.Keyed
namespace Go.Proofs.YthpocgdmfphlgaaGreatDoor.SL
open Go.RowKit

/-! ### A map whose keys are strings, its entries known -/

/-- Where a key stands among the entries. -/
def findEnt (key : ByteArray) : List MapEntry → Nat → Option (Nat × Value)
  | [], _ => none
  | e :: es, i => match e.key with
    | .string s => if key == s then some (i, e.val) else findEnt key es (i + 1)
    | _ => none

def strKeys (es : List MapEntry) : Prop := ∀ e ∈ es, ∃ s, e.key = .string s

theorem beq_bytes (a b : ByteArray) : (a == b) = decide (a = b) := by
  cases a with | mk x => cases b with | mk y =>
  show (x == y) = _
  by_cases h : x = y
  · subst h; simp
  · have : ¬ (ByteArray.mk x = ByteArray.mk y) := fun e => h (by injection e)
    simp [h]
theorem beq_bytes_ne {a b : ByteArray} (h : a ≠ b) : (a == b) = false := by rw [beq_bytes]; simp [h]
theorem beq_bytes_self (a : ByteArray) : (a == a) = true := by rw [beq_bytes]; simp

theorem findNow_eq (key : ByteArray) : ∀ (es : List MapEntry) (i : Nat), strKeys es →
    Instr.findNow .string (.string key) es i = some (findEnt key es i)
  | [], _, _ => rfl
  | e :: es, i, h => by
    obtain ⟨s, hs⟩ := h e (by simp)
    have ih := findNow_eq key es (i + 1) (fun x hx => h x (by simp [hx]))
    unfold Instr.findNow findEnt
    rw [hs]
    simp only [Instr.sameNow]
    by_cases hk : key == s
    · simp [hk]
    · simp only [hk]; simpa using ih

theorem run_findKey_str {P : Program} {K : TypeId} (hK : P.underlying K = some .string) (w : World) (key : ByteArray) (es : List MapEntry) (h : strKeys es) :
    (Instr.findKey K (.string key) es).run P w = .ok (findEnt key es 0) w := by
  simp [Instr.findKey, run_underlying hK, findNow_eq key es 0 h]

theorem run_checkKey_str {P : Program} {K : TypeId} (hK : P.underlying K = some .string) (w : World) (b : Bool) (key : ByteArray) : (Instr.checkKey b 10000 K (.string key)).run P w = .ok () w := by
  exact MapKept.run_checkKey hK (d := .string) (k := .string key) trivial b 9999

/-- 'm[key]' with the comma-ok: the entry is there. -/
theorem run_lookup_hit {P : Program} {T K E : TypeId} (hT : P.underlying T = some (.map K E)) (hK : P.underlying K = some .string) (w : World) (r : Nat) (es : Array MapEntry) (clock : Nat) (hw : w.heap[r]? = some (.map es clock)) (hs : strKeys es.toList)
    (key : ByteArray) (i : Nat) (v : Value) (hf : findEnt key es.toList 0 = some (i, v)) :
    (Instr.lookup T (.map (some r)) (.string key) true).run P w = .ok (.tuple #[v, .bool true]) w := by
  simp [Instr.lookup, run_underlying hT, MapKept.run_getObj_map hw, run_checkKey_str hK, run_findKey_str hK w key es.toList hs, hf]

theorem run_lookup_miss {P : Program} {T K E : TypeId} (hT : P.underlying T = some (.map K E)) (hK : P.underlying K = some .string) (w : World) (r : Nat) (es : Array MapEntry) (clock : Nat) (hw : w.heap[r]? = some (.map es clock)) (hs : strKeys es.toList)
    (key : ByteArray) (hf : findEnt key es.toList 0 = none) (z : Value) (hz : ∀ w, (zeroValue E).run P w = .ok z w) :
    (Instr.lookup T (.map (some r)) (.string key) true).run P w = .ok (.tuple #[z, .bool false]) w := by
  simp [Instr.lookup, run_underlying hT, MapKept.run_getObj_map hw, run_checkKey_str hK, run_findKey_str hK w key es.toList hs, hf, hz]

theorem run_lookup1_hit {P : Program} {T K E : TypeId} (hT : P.underlying T = some (.map K E)) (hK : P.underlying K = some .string) (w : World) (r : Nat) (es : Array MapEntry) (clock : Nat) (hw : w.heap[r]? = some (.map es clock)) (hs : strKeys es.toList)
    (key : ByteArray) (i : Nat) (v : Value) (hf : findEnt key es.toList 0 = some (i, v)) :
    (Instr.lookup T (.map (some r)) (.string key) false).run P w = .ok v w := by
  simp [Instr.lookup, run_underlying hT, MapKept.run_getObj_map hw, run_checkKey_str hK, run_findKey_str hK w key es.toList hs, hf]

theorem run_lookup1_miss {P : Program} {T K E : TypeId} (hT : P.underlying T = some (.map K E)) (hK : P.underlying K = some .string) (w : World) (r : Nat) (es : Array MapEntry) (clock : Nat) (hw : w.heap[r]? = some (.map es clock)) (hs : strKeys es.toList)
    (key : ByteArray) (hf : findEnt key es.toList 0 = none) (z : Value) (hz : ∀ w, (zeroValue E).run P w = .ok z w) :
    (Instr.lookup T (.map (some r)) (.string key) false).run P w = .ok z w := by
  simp [Instr.lookup, run_underlying hT, MapKept.run_getObj_map hw, run_checkKey_str hK, run_findKey_str hK w key es.toList hs, hf, hz]

theorem run_update_new {P : Program} {T K E : TypeId} (hT : P.underlying T = some (.map K E)) (hK : P.underlying K = some .string) (w : World) (r : Nat) (es : Array MapEntry) (clock : Nat) (hw : w.heap[r]? = some (.map es clock)) (hs : strKeys es.toList)
    (key : ByteArray) (hf : findEnt key es.toList 0 = none) (v : Value) :
    (Instr.mapUpdate T (.map (some r)) (.string key) v).run P w = .ok () { w with heap := w.heap.setIfInBounds r (.map (es.push { key := .string key, val := v, born := clock }) (clock + 1)) } := by
  have hset : ∀ o, (setObj r o).run P w = .ok () { w with heap := w.heap.setIfInBounds r o } := fun o => by simp only [setObj, Sem.run, hw]
  simp [Instr.mapUpdate, run_underlying hT, MapKept.run_getObj_map hw, run_checkKey_str hK, run_findKey_str hK w key es.toList hs, hf, hset]

/-! ### The table of commands -/
structure Cmd where
  key : List UInt8
  form : List Int
  spare : Int
  needs : List UInt8
  fn : Nat
  opened : Bool

def bs (l : List UInt8) : ByteArray := ⟨l.toArray⟩

/-- The commands of the dump, in the text's order. -/
def cmds : List Cmd := [
  { key := [99, 111, 100, 101], form := [0], spare := 0, needs := [], fn := 13, opened := false },
  { key := [111, 117, 116, 108, 101, 116], form := [0, 0, 1], spare := 0, needs := [], fn := 14, opened := false },
  { key := [112, 114, 111, 100, 117, 99, 116], form := [0, 0, 0, 6], spare := 0, needs := [], fn := 15, opened := false },
  { key := [97, 116, 116, 114, 105, 98, 117, 116, 101], form := [0, 0], spare := 0, needs := [112, 114, 111, 100, 117, 99, 116], fn := 16, opened := false },
  { key := [115, 108, 111, 116], form := [0, 0], spare := 0, needs := [], fn := 17, opened := false },
  { key := [98, 117, 100, 103, 101, 116], form := [1, 0], spare := 0, needs := [], fn := 18, opened := false },
  { key := [97, 109, 111, 117, 110, 116], form := [0, 2], spare := 0, needs := [98, 117, 100, 103, 101, 116], fn := 19, opened := false },
  { key := [112, 114, 111, 102, 105, 108, 101], form := [0], spare := 0, needs := [], fn := 20, opened := false },
  { key := [117, 115, 101], form := [1, 1], spare := 0, needs := [112, 114, 111, 102, 105, 108, 101], fn := 21, opened := false },
  { key := [112, 108, 97, 110], form := [5], spare := 0, needs := [], fn := 22, opened := false },
  { key := [102, 105, 114, 115, 116], form := [4], spare := 0, needs := [], fn := 23, opened := false },
  { key := [108, 97, 103], form := [1], spare := 0, needs := [], fn := 24, opened := false },
  { key := [104, 111, 108, 105, 100, 97, 121], form := [3], spare := 0, needs := [], fn := 25, opened := false },
  { key := [102, 105, 108, 101], form := [0, 1, 3, 7], spare := 0, needs := [], fn := 26, opened := false },
  { key := [118, 105, 115, 105, 116], form := [0, 1, 0, 0, 4, 3, 8, 1, 0], spare := 2, needs := [102, 105, 108, 101], fn := 27, opened := false },
  { key := [100, 101, 99, 105, 100, 101], form := [0, 1, 0, 0, 4, 0, 1], spare := 0, needs := [102, 105, 108, 101], fn := 28, opened := false },
  { key := [114, 111, 119], form := [0, 0, 4, 1, 1], spare := 0, needs := [102, 105, 108, 101], fn := 29, opened := false },
  { key := [114, 97, 116, 101], form := [0, 0, 4, 1], spare := 0, needs := [102, 105, 108, 101], fn := 30, opened := false },
  { key := [98, 108, 111, 99, 107], form := [1, 1], spare := 0, needs := [102, 105, 108, 101], fn := 31, opened := false },
  { key := [111, 112, 101, 110], form := [], spare := 0, needs := [], fn := 32, opened := false },
  { key := [114, 101, 99, 101, 105, 118, 101], form := [], spare := 0, needs := [], fn := 34, opened := true },
  { key := [112, 117, 98, 108, 105, 115, 104], form := [3], spare := 0, needs := [], fn := 35, opened := true },
  { key := [115, 104, 111, 119], form := [0, 4], spare := 0, needs := [], fn := 36, opened := true },
  { key := [116, 97, 98, 108, 101], form := [1], spare := 0, needs := [], fn := 37, opened := true },
  { key := [114, 101, 112, 114, 111, 100, 117, 99, 101], form := [1], spare := 0, needs := [], fn := 38, opened := true },
  { key := [114, 101, 118, 105, 115, 101], form := [3], spare := 0, needs := [], fn := 39, opened := true },
  { key := [99, 111, 110, 116, 114, 105, 98, 117, 116, 105, 111, 110, 115], form := [3, 4], spare := 0, needs := [], fn := 40, opened := true }]

structure Tab where
  es : Array MapEntry
  rest : Array Obj

def formVal (n : Nat) (f : List Int) : Value := if f = [] then .slice none 0 0 else .slice (some ⟨n, 0, none⟩) f.length f.length
def fnVal (n : Nat) (c : Cmd) : Value := if c.opened then .func (.func 50) #[] #[.pointer (some ⟨n, 0, none⟩)] else .func (.func c.fn) #[] #[]

/-- The table's memory behind one command more; n: the map's block. -/
def Tab.add (n : Nat) (t : Tab) (c : Cmd) : Tab :=
  let r1 := if c.form = [] then t.rest else t.rest.push (.cells (c.form.map (Value.int .i64)).toArray 68)
  let r2 := if c.opened then r1.push (.cells #[.func (.func c.fn) #[] #[]] 78) else r1
  { es := t.es.push { key := .string (bs c.key), val := .agg #[formVal (n + 1 + t.rest.size) c.form, .int .i64 c.spare, .string (bs c.needs), fnVal (n + 1 + r1.size) c], born := t.es.size }, rest := r2 }

def tabOf (n : Nat) (l : List Cmd) : Tab := l.foldl (Tab.add n) { es := #[], rest := #[] }

/-- The world behind 'commands()': the map's block, then the forms and the captured functions. -/
def Tab.world (t : Tab) (w : World) : World := { w with heap := w.heap ++ (#[.map t.es t.es.size] ++ t.rest) }

/-- What is known of the frame of 'commands()' while it fills the map. -/
structure Fr (n : Nat) (a : Act) : Prop where
  size : a.tmps.size = 62
  map : a.tmps[1]? = some (.map (some n))
  defers : a.defers = []

theorem Fr.put {n : Nat} {a : Act} (h : Fr n a) (d : Tmp) (hd : d ≠ 1) (v : Value) : Fr n (a.put (some d) v) :=
  ⟨by simp [Act.put, h.size], by simp only [Act.put]; rw [Array.getElem?_setIfInBounds_ne (by simpa using hd)]; exact h.map, h.defers⟩

theorem Fr.get {n : Nat} {a : Act} (h : Fr n a) (d : Tmp) (hd : d < 62) (v : Value) : (a.put (some d) v).eval (.tmp d) = v := by
  simp [Act.put, Act.eval, Array.getD_eq_getD_getElem?, h.size, hd]

theorem Fr.eval1 {n : Nat} {a : Act} (h : Fr n a) : a.eval (.tmp 1) = .map (some n) := by
  simp [Act.eval, Array.getD_eq_getD_getElem?, h.map]

theorem Tab.world_size (t : Tab) (w : World) : (t.world w).heap.size = w.heap.size + 1 + t.rest.size := by
  simp only [Tab.world, Array.size_append, List.size_toArray, List.length_cons, List.length_nil]; omega

theorem Tab.world_map (t : Tab) (w : World) : (t.world w).heap[w.heap.size]? = some (.map t.es t.es.size) := by
  simp [Tab.world, Array.getElem?_append]

/-- A new block behind the table. -/
theorem Tab.world_alloc (t : Tab) (w : World) (o : Obj) : (t.world w).alloc o = { es := t.es, rest := t.rest.push o : Tab }.world w := by
  simp [Tab.world, World.alloc]

theorem Tab.world_set (t : Tab) (w : World) (e : MapEntry) :
    { t.world w with heap := (t.world w).heap.setIfInBounds w.heap.size (.map (t.es.push e) (t.es.size + 1)) } = { es := t.es.push e, rest := t.rest : Tab }.world w := by
  simp only [Tab.world]
  congr 1
  apply Array.ext_getElem?
  intro i
  rw [Array.getElem?_setIfInBounds]
  by_cases h : w.heap.size = i
  · subst h; simp [Array.getElem?_append]; omega
  · rw [if_neg h]
    simp only [Array.getElem?_append]
    by_cases h2 : i < w.heap.size
    · simp [h2]
    · simp only [h2, if_false]
      have : 0 < i - w.heap.size := by omega
      obtain ⟨k, hk⟩ : ∃ k, i - w.heap.size = k + 1 := ⟨i - w.heap.size - 1, by omega⟩
      simp [hk]

def KeysAre (t : Tab) (ks : List (List UInt8)) : Prop := t.es.toList.map (·.key) = ks.map fun k => Value.string (bs k)

theorem KeysAre.nil : KeysAre { es := #[], rest := #[] } [] := rfl

theorem KeysAre.add {t : Tab} {ks : List (List UInt8)} (h : KeysAre t ks) (n : Nat) (c : Cmd) : KeysAre (t.add n c) (ks ++ [c.key]) := by
  unfold KeysAre at *
  simp only [Tab.add, Array.toList_push, List.map_append, List.map_cons, List.map_nil, h]

theorem KeysAre.str {t : Tab} {ks : List (List UInt8)} (h : KeysAre t ks) : strKeys t.es.toList := by
  intro e he
  have : e.key ∈ t.es.toList.map (·.key) := List.mem_map_of_mem he
  rw [h, List.mem_map] at this
  obtain ⟨k, _, hk⟩ := this
  exact ⟨_, hk.symm⟩

theorem bs_inj {a b : List UInt8} (h : bs a = bs b) : a = b := by
  have := congrArg (fun x : ByteArray => x.data.toList) h
  simpa [bs] using this

theorem findEnt_none (key : List UInt8) : ∀ (es : List MapEntry) (ks : List (List UInt8)) (i : Nat), (es.map (·.key) = ks.map fun k => Value.string (bs k)) → key ∉ ks → findEnt (bs key) es i = none
  | [], _, _, _, _ => rfl
  | e :: es, [], _, h, _ => by simp at h
  | e :: es, k :: ks, i, h, hn => by
    simp only [List.map_cons, List.cons.injEq] at h
    unfold findEnt
    rw [h.1]
    have hne : (bs key == bs k) = false := beq_bytes_ne fun e => hn (by rw [bs_inj e]; simp)
    simp only [hne]
    exact findEnt_none key es ks (i + 1) h.2 (fun hm => hn (by simp [hm]))

section steps
variable {ops : Array Oper} {Q : Exit → Act → World → Prop} {l : List Oper} {a : Act} {w : World} {t : Tab} {ks : List (List UInt8)}

theorem run_newKey (hk : KeysAre t ks) (key : List UInt8) (hn : key ∉ ks) (v : Value) :
    (Instr.mapUpdate 30 (.map (some w.heap.size)) (.string (bs key)) v).run Tryz.prog (t.world w) = .ok () ({ es := t.es.push { key := .string (bs key), val := v, born := t.es.size }, rest := t.rest : Tab }.world w) := by
  rw [run_update_new Tryz.underlying30 Tryz.underlying9 (t.world w) w.heap.size t.es t.es.size (t.world_map w) hk.str (bs key) (findEnt_none key _ ks 0 hk hn) v]
  rw [← t.world_set w]

/-- A command with a form and a declared function. -/
theorem step_form (c : Cmd) (hk : KeysAre t ks) (hn : c.key ∉ ks) (hG : Fr w.heap.size a) (hop : c.opened = false) (hf : c.form ≠ [])
    (d1 d2 : Tmp) (hd1 : d1 ≠ 1) (hd2 : d2 ≠ 1) (hd3 : d2 < 62) (o1 o2 o3 : Oper) (g1 : o1.guard = none) (g2 : o2.guard = none) (g3 : o3.guard = none) (e1 : o1.dst = some d1) (e2 : o2.dst = some d2) (e3 : o3.dst = none)
    (r1 : ∀ (a : Act) (W : World), (execOp a.eval o1).run Tryz.prog W = .ok (.value (.slice (some ⟨W.heap.size, 0, none⟩) c.form.length c.form.length)) (W.alloc (.cells (c.form.map (Value.int .i64)).toArray 68)))
    (r2 : ∀ (a : Act) (W : World) (b m : Nat), d1 < a.tmps.size → (execOp (a.put (some d1) (.slice (some ⟨b, 0, none⟩) m m)).eval o2).run Tryz.prog W = .ok (.value (.agg #[.slice (some ⟨b, 0, none⟩) m m, .int .i64 c.spare, .string (bs c.needs), .func (.func c.fn) #[] #[]])) W)
    (h3 : o3.op = .insert 30 (.tmp 1) (.const (.string (bs c.key))) (.tmp d2)) (hd1' : d1 < 62)
    (h : ∀ a', Fr w.heap.size a' → wpList Tryz.prog ops Q l a' ((t.add w.heap.size c).world w)) :
    wpList Tryz.prog ops Q (o1 :: o2 :: o3 :: l) a (t.world w) := by
  refine wpList_plain g1 fun K hK => ?_
  unfold Oper.wp
  rw [r1]
  simp only [Oper.upon, e1]
  apply hK
  refine wpList_plain g2 fun K hK => ?_
  unfold Oper.wp
  rw [r2 _ _ _ _ (by rw [hG.size]; exact hd1')]
  simp only [Oper.upon, e2]
  apply hK
  refine wpList_plain g3 fun K hK => ?_
  unfold Oper.wp
  have hG1 := hG.put d1 hd1 (.slice (some ⟨(t.world w).heap.size, 0, none⟩) c.form.length c.form.length)
  have hv := hG1.get d2 hd3 (.agg #[.slice (some ⟨(t.world w).heap.size, 0, none⟩) c.form.length c.form.length, .int .i64 c.spare, .string (bs c.needs), .func (.func c.fn) #[] #[]])
  have hG2 := hG1.put d2 hd2 (.agg #[.slice (some ⟨(t.world w).heap.size, 0, none⟩) c.form.length c.form.length, .int .i64 c.spare, .string (bs c.needs), .func (.func c.fn) #[] #[]])
  have hex : ∀ (A : Act) (W : World), (execOp A.eval o3).run Tryz.prog W = ((Instr.mapUpdate 30 (A.eval (.tmp 1)) (.string (bs c.key)) (A.eval (.tmp d2))).run Tryz.prog W).andThen fun _ W => .ok .skip W := by
    intro A W; simp [execOp, h3, Act.eval]
  rw [hex, hv, hG2.eval1, t.world_alloc w, run_newKey (t := { es := t.es, rest := t.rest.push _ }) hk c.key hn]
  simp only [Result.andThen_ok, Oper.upon, e3]
  apply hK
  have key := h _ (show Fr w.heap.size (((a.put (some d1) _).put (some d2) _).put none undef) from hG2)
  simpa [Tab.add, hf, hop, formVal, fnVal, Tab.world_size] using key

/-- A command without form, with a declared function ('open'). -/
theorem step_bare (c : Cmd) (hk : KeysAre t ks) (hn : c.key ∉ ks) (hG : Fr w.heap.size a) (hop : c.opened = false) (hf : c.form = [])
    (d2 : Tmp) (hd2 : d2 ≠ 1) (hd3 : d2 < 62) (o2 o3 : Oper) (g2 : o2.guard = none) (g3 : o3.guard = none) (e2 : o2.dst = some d2) (e3 : o3.dst = none)
    (r2 : ∀ (a : Act) (W : World), (execOp a.eval o2).run Tryz.prog W = .ok (.value (.agg #[.slice none 0 0, .int .i64 c.spare, .string (bs c.needs), .func (.func c.fn) #[] #[]])) W)
    (h3 : o3.op = .insert 30 (.tmp 1) (.const (.string (bs c.key))) (.tmp d2))
    (h : ∀ a', Fr w.heap.size a' → wpList Tryz.prog ops Q l a' ((t.add w.heap.size c).world w)) :
    wpList Tryz.prog ops Q (o2 :: o3 :: l) a (t.world w) := by
  refine wpList_plain g2 fun K hK => ?_
  unfold Oper.wp
  rw [r2 _ _]
  simp only [Oper.upon, e2]
  apply hK
  refine wpList_plain g3 fun K hK => ?_
  unfold Oper.wp
  have hv := hG.get d2 hd3 (.agg #[.slice none 0 0, .int .i64 c.spare, .string (bs c.needs), .func (.func c.fn) #[] #[]])
  have hG2 := hG.put d2 hd2 (.agg #[.slice none 0 0, .int .i64 c.spare, .string (bs c.needs), .func (.func c.fn) #[] #[]])
  have hex : ∀ (A : Act) (W : World), (execOp A.eval o3).run Tryz.prog W = ((Instr.mapUpdate 30 (A.eval (.tmp 1)) (.string (bs c.key)) (A.eval (.tmp d2))).run Tryz.prog W).andThen fun _ W => .ok .skip W := by
    intro A W; simp [execOp, h3, Act.eval]
  rw [hex, hv, hG2.eval1, run_newKey hk c.key hn]
  simp only [Result.andThen_ok, Oper.upon, e3]
  apply hK
  have key := h _ (show Fr w.heap.size ((a.put (some d2) _).put none undef) from hG2)
  simpa [Tab.add, hf, hop, formVal, fnVal, Tab.world_size] using key

set_option maxHeartbeats 400000 in
theorem opened_any (k : Nat) (w : World) :
    Calls Tryz.prog 33 #[.func (.func k) #[] #[]] w fun e w' => e = .returned (.func (.func 50) #[] #[.pointer (some ⟨w.heap.size, 0, none⟩)]) ∧ w' = w.alloc (.cells #[.func (.func k) #[] #[]] 78) := by
  go_enter Tryz.func33, Tryz.ntmps33
  go_wp2
  go_ret
  exact ⟨rfl, rfl⟩

/-- A command without form that needs an office ('receive'). -/
theorem step_opened (c : Cmd) (hk : KeysAre t ks) (hn : c.key ∉ ks) (hG : Fr w.heap.size a) (hop : c.opened = true) (hf : c.form = [])
    (d1 d2 : Tmp) (hd1 : d1 ≠ 1) (hd2 : d2 ≠ 1) (hd3 : d2 < 62) (o1 o2 o3 : Oper) (g1 : o1.guard = none) (g2 : o2.guard = none) (g3 : o3.guard = none) (e1 : o1.dst = some d1) (e2 : o2.dst = some d2) (e3 : o3.dst = none)
    (r1 : ∀ (a : Act) (W : World), (execOp a.eval o1).run Tryz.prog W = .ok (.enter 33 #[.func (.func c.fn) #[] #[]]) W)
    (r2 : ∀ (a : Act) (W : World) (f1 f2 f3 : _), d1 < a.tmps.size → (execOp (a.put (some d1) (.func f1 f2 f3)).eval o2).run Tryz.prog W = .ok (.value (.agg #[.slice none 0 0, .int .i64 c.spare, .string (bs c.needs), .func f1 f2 f3])) W)
    (h3 : o3.op = .insert 30 (.tmp 1) (.const (.string (bs c.key))) (.tmp d2)) (hd1' : d1 < 62)
    (h : ∀ a', Fr w.heap.size a' → wpList Tryz.prog ops Q l a' ((t.add w.heap.size c).world w)) :
    wpList Tryz.prog ops Q (o1 :: o2 :: o3 :: l) a (t.world w) := by
  refine wpList_plain g1 fun K hK => ?_
  unfold Oper.wp
  rw [r1]
  simp only [Oper.upon, e1]
  refine (opened_any c.fn (t.world w)).mono ?_
  rintro e w' ⟨rfl, rfl⟩
  apply hK
  refine wpList_plain g2 fun K hK => ?_
  unfold Oper.wp
  rw [r2 _ _ _ _ _ (by rw [hG.size]; exact hd1')]
  simp only [Oper.upon, e2]
  apply hK
  refine wpList_plain g3 fun K hK => ?_
  unfold Oper.wp
  have hG1 := hG.put d1 hd1 (.func (.func 50) #[] #[.pointer (some ⟨(t.world w).heap.size, 0, none⟩)])
  have hv := hG1.get d2 hd3 (.agg #[.slice none 0 0, .int .i64 c.spare, .string (bs c.needs), .func (.func 50) #[] #[.pointer (some ⟨(t.world w).heap.size, 0, none⟩)]])
  have hG2 := hG1.put d2 hd2 (.agg #[.slice none 0 0, .int .i64 c.spare, .string (bs c.needs), .func (.func 50) #[] #[.pointer (some ⟨(t.world w).heap.size, 0, none⟩)]])
  have hex : ∀ (A : Act) (W : World), (execOp A.eval o3).run Tryz.prog W = ((Instr.mapUpdate 30 (A.eval (.tmp 1)) (.string (bs c.key)) (A.eval (.tmp d2))).run Tryz.prog W).andThen fun _ W => .ok .skip W := by
    intro A W; simp [execOp, h3, Act.eval]
  rw [hex, hv, hG2.eval1, t.world_alloc w, run_newKey (t := { es := t.es, rest := t.rest.push _ }) hk c.key hn]
  simp only [Result.andThen_ok, Oper.upon, e3]
  apply hK
  have key := h _ (show Fr w.heap.size (((a.put (some d1) _).put (some d2) _).put none undef) from hG2)
  simpa [Tab.add, hf, hop, formVal, fnVal, Tab.world_size] using key

/-- A command with a form that needs an office. -/
theorem step_both (c : Cmd) (hk : KeysAre t ks) (hn : c.key ∉ ks) (hG : Fr w.heap.size a) (hop : c.opened = true) (hf : c.form ≠ [])
    (d0 d1 d2 : Tmp) (hd0 : d0 ≠ 1) (hd1 : d1 ≠ 1) (hd2 : d2 ≠ 1) (hd3 : d2 < 62) (o0 o1 o2 o3 : Oper) (g0 : o0.guard = none) (g1 : o1.guard = none) (g2 : o2.guard = none) (g3 : o3.guard = none) (e0 : o0.dst = some d0) (e1 : o1.dst = some d1) (e2 : o2.dst = some d2) (e3 : o3.dst = none)
    (r0 : ∀ (a : Act) (W : World), (execOp a.eval o0).run Tryz.prog W = .ok (.value (.slice (some ⟨W.heap.size, 0, none⟩) c.form.length c.form.length)) (W.alloc (.cells (c.form.map (Value.int .i64)).toArray 68)))
    (r1 : ∀ (a : Act) (W : World), (execOp a.eval o1).run Tryz.prog W = .ok (.enter 33 #[.func (.func c.fn) #[] #[]]) W)
    (r2 : ∀ (a : Act) (W : World) (b m : Nat) (f1 f2 f3 : _), d0 < a.tmps.size → d1 < a.tmps.size → (execOp ((a.put (some d0) (.slice (some ⟨b, 0, none⟩) m m)).put (some d1) (.func f1 f2 f3)).eval o2).run Tryz.prog W = .ok (.value (.agg #[.slice (some ⟨b, 0, none⟩) m m, .int .i64 c.spare, .string (bs c.needs), .func f1 f2 f3])) W)
    (h3 : o3.op = .insert 30 (.tmp 1) (.const (.string (bs c.key))) (.tmp d2)) (hd0' : d0 < 62) (hd1' : d1 < 62)
    (h : ∀ a', Fr w.heap.size a' → wpList Tryz.prog ops Q l a' ((t.add w.heap.size c).world w)) :
    wpList Tryz.prog ops Q (o0 :: o1 :: o2 :: o3 :: l) a (t.world w) := by
  refine wpList_plain g0 fun K hK => ?_
  unfold Oper.wp
  rw [r0]
  simp only [Oper.upon, e0]
  apply hK
  rw [t.world_alloc w]
  have hs0 : (t.world w).heap.size = w.heap.size + 1 + t.rest.size := t.world_size w
  rw [hs0]
  refine wpList_plain g1 fun K hK => ?_
  unfold Oper.wp
  rw [r1]
  simp only [Oper.upon, e1]
  refine (opened_any c.fn _).mono ?_
  rintro e w' ⟨rfl, rfl⟩
  apply hK
  rw [Tab.world_alloc]
  refine wpList_plain g2 fun K hK => ?_
  unfold Oper.wp
  rw [r2 _ _ _ _ _ _ _ (by rw [hG.size]; exact hd0') (by rw [hG.size]; exact hd1')]
  simp only [Oper.upon, e2]
  apply hK
  refine wpList_plain g3 fun K hK => ?_
  unfold Oper.wp
  have hG0 := hG.put d0 hd0 (.slice (some ⟨w.heap.size + 1 + t.rest.size, 0, none⟩) c.form.length c.form.length)
  have hG1 := hG0.put d1 hd1 (.func (.func 50) #[] #[.pointer (some ⟨({ es := t.es, rest := t.rest.push (.cells (c.form.map (Value.int .i64)).toArray 68) } : Tab).world w |>.heap.size, 0, none⟩)])
  have hv := hG1.get d2 hd3 (.agg #[.slice (some ⟨w.heap.size + 1 + t.rest.size, 0, none⟩) c.form.length c.form.length, .int .i64 c.spare, .string (bs c.needs), .func (.func 50) #[] #[.pointer (some ⟨({ es := t.es, rest := t.rest.push (.cells (c.form.map (Value.int .i64)).toArray 68) } : Tab).world w |>.heap.size, 0, none⟩)]])
  have hG2 := hG1.put d2 hd2 (.agg #[.slice (some ⟨w.heap.size + 1 + t.rest.size, 0, none⟩) c.form.length c.form.length, .int .i64 c.spare, .string (bs c.needs), .func (.func 50) #[] #[.pointer (some ⟨({ es := t.es, rest := t.rest.push (.cells (c.form.map (Value.int .i64)).toArray 68) } : Tab).world w |>.heap.size, 0, none⟩)]])
  have hex : ∀ (A : Act) (W : World), (execOp A.eval o3).run Tryz.prog W = ((Instr.mapUpdate 30 (A.eval (.tmp 1)) (.string (bs c.key)) (A.eval (.tmp d2))).run Tryz.prog W).andThen fun _ W => .ok .skip W := by
    intro A W; simp [execOp, h3, Act.eval]
  rw [hex, hv, hG2.eval1, run_newKey (t := { es := t.es, rest := (t.rest.push _).push _ }) hk c.key hn]
  simp only [Result.andThen_ok, Oper.upon, e3]
  apply hK
  have key := h _ (show Fr w.heap.size ((((a.put (some d0) _).put (some d1) _).put (some d2) _).put none undef) from hG2)
  simpa [Tab.add, hf, hop, formVal, fnVal, Tab.world_size] using key

end steps
end Go.Proofs.YthpocgdmfphlgaaGreatDoor.SL
