/- stamp.New; Len; Looks. -/
import Derived.Test.YtgfokmgbphhpjaaStTab
namespace Go.Proofs.Ytgfokmgbphhpjaa.St
open Go.RowKit Go.Proofs.YtgfokmgbphhpjaaW.PrintWords Go.Proofs.YtgfokmgbphhpjaaW.PrintLast Go.Proofs.YtgfokmgbphhpjaaW.PrintMore Go.Proofs.Ytgfokmgbphhpjaa.PStampKeeps
open Go.Maps Go.WideElems Go.MapKept Go.ChangeMaps Go.ChangeShapes
set_option linter.unusedVariables false
set_option linter.unusedSimpArgs false
abbrev tabCells (T : Tab) (vr : Value) (bm : Nat) : Array Value := #[.int .i64 T.bits, .int .i64 T.room, vr, .map (some bm), .int .i64 T.looked, .int .i64 T.same]
/-- A new table. -/
theorem isT_new (w w1 : World) (bits room : Nat) (hb : bits ≤ 64) (hr : room ≤ 20000) (h1 : w1 = w.alloc (.map #[] 0)) :
    IsT (w1.alloc (.cells (tabCells ⟨bits, room, [], 0, 0⟩ (.slice none 0 0) w.heap.size) 81)) (w.heap.size + 1) ⟨bits, room, [], 0, 0⟩ (fun k => k = w.heap.size ∨ k = w.heap.size + 1) w.heap.size (.slice none 0 0) (fun _ => False) (fun _ => False) (.map []) := by
  have hs1 : w1.heap.size = w.heap.size + 1 := by rw [h1, World.size_alloc]
  have hg : w1.ownsGroups (H := Unit) Try.prog 30 (w.heap.size + 1) 3 .i64 w.heap.size 0 (.map []) := by rw [h1]; exact World.ownsGroups_made w Try.prog 30 3 .i64
  have hsh : w1.Shuns w.heap.size (fun k => ¬ False) := by rw [h1]; exact World.Shuns_made w _
  have hold : ∀ (o : Obj) (k : Nat), k < w1.heap.size → (w1.alloc o).heap[k]? = w1.heap[k]? := fun o k hk => (below_alloc (Below.refl _ _) o).block k hk
  refine { blk := ?_, rows := Kd.R_nil _ _ _ _ _, grp := ?_, shun := ?_, isMap := Maps.isMap_empty, hat := ?_, fp := Or.inr rfl, fm := Or.inl rfl, fr := fun _ h => h.elim, fg := fun _ h => h.elim, lt := ?_, rp := id, rm := id, gp := id, gm := id, rg := fun _ h => h.elim, pm := by omega, bits := hb, len := Nat.zero_le _, room := hr, byt := by simp }
  · rw [← hs1]; exact heap_alloc_new _ _
  · exact groups_move (G := fun _ => False) hg (hold _ _ (by omega)) hsh (fun _ h => h.elim)
  · exact shuns_move hsh (hold _ _ (by omega))
  · intro s _
    rw [idxs_nil]
    rfl
  · intro k hk
    rw [World.size_alloc]
    rcases hk with rfl | rfl <;> omega
set_option maxHeartbeats 4000000 in
set_option maxRecDepth 1000000 in
theorem new_calls (w : World) (bits room : Nat) (hb : bits ≤ 64) (h1 : 1 ≤ room) (hr : room ≤ 20000) :
    Calls Try.prog 19 #[.int .i64 bits, .int .i64 room] w fun e w' => e = .returned (.tuple #[ptr (w.heap.size + 1), .int .i64 0]) ∧ IsT w' (w.heap.size + 1) ⟨bits, room, [], 0, 0⟩ (fun k => k = w.heap.size ∨ k = w.heap.size + 1) w.heap.size (.slice none 0 0) (fun _ => False) (fun _ => False) (.map []) ∧ Below w.heap.size w w' ∧ w'.heap.size = w.heap.size + 2 := by
  have k0 : decide ((bits : Int) < 0) = false := decide_eq_false (by omega)
  have k1 : decide (64 < (bits : Int)) = false := decide_eq_false (by omega)
  have k2 : decide ((room : Int) < 1) = false := decide_eq_false (by omega)
  have k3 : decide (20000 < (room : Int)) = false := decide_eq_false (by omega)
  have HB := Aside0.mk hb
  have HR := Aside0.mk hr
  clear hb h1 hr
  have hmm := @run_makeMap Try.prog
  go_enter Try.func19, Try.ntmps19
  go_wp2
  go_ret2
  refine ⟨rfl, isT_new w _ bits room HB.out HR.out rfl, ?_, ?_⟩
  · exact below_alloc (below_alloc (Below.refl _ _) _) _
  · rw [World.size_alloc, World.size_alloc]
set_option maxHeartbeats 4000000 in
set_option maxRecDepth 1000000 in
theorem new_not (w : World) (bits room : Int) (h : bits < 0 ∨ 64 < bits ∨ room < 1 ∨ 20000 < room) :
    Calls Try.prog 19 #[.int .i64 bits, .int .i64 room] w fun e w' => e = .returned (.tuple #[.pointer none, .int .i64 1]) ∧ w' = w := by
  by_cases c0 : bits < 0
  · have k0 : decide (bits < 0) = true := decide_eq_true c0
    clear h c0
    go_enter Try.func19, Try.ntmps19
    go_wp2
    go_ret2
    exact ⟨rfl, rfl⟩
  have k0 : decide (bits < 0) = false := decide_eq_false c0
  by_cases c1 : 64 < bits
  · have k1 : decide (64 < bits) = true := decide_eq_true c1
    clear h c0 c1
    go_enter Try.func19, Try.ntmps19
    go_wp2
    go_ret2
    exact ⟨rfl, rfl⟩
  have k1 : decide (64 < bits) = false := decide_eq_false c1
  by_cases c2 : room < 1
  · have k2 : decide (room < 1) = true := decide_eq_true c2
    clear h c0 c1 c2
    go_enter Try.func19, Try.ntmps19
    go_wp2
    go_ret2
    exact ⟨rfl, rfl⟩
  have k2 : decide (room < 1) = false := decide_eq_false c2
  have k3 : decide (20000 < room) = true := decide_eq_true (by omega)
  clear h c0 c1 c2
  go_enter Try.func19, Try.ntmps19
  go_wp2
  go_ret2
  exact ⟨rfl, rfl⟩
set_option maxHeartbeats 4000000 in
set_option maxRecDepth 1000000 in
theorem len_calls (w : World) {pt : Nat} {T : Tab} {F : Nat → Prop} {bm : Nat} {vr : Value} {FR FG : Nat → Prop} {D : DataW Unit} (h : IsT w pt T F bm vr FR FG D) :
    Calls Try.prog 22 #[ptr pt] w fun e w' => e = .returned (.int .i64 T.rows.length) ∧ w' = w := by
  obtain ⟨A, c, e⟩ := Kd.R_slice h.rows
  have hb := h.blk
  rw [e] at hb
  have c2 : w.cell? ⟨pt, 2, none⟩ = some (.slice A T.rows.length c) := (blk_cell hb 2).trans rfl
  clear hb h e
  go_enter Try.func22, Try.ntmps22
  go_wp2
  go_ret
  exact ⟨rfl, rfl⟩
set_option maxHeartbeats 4000000 in
set_option maxRecDepth 1000000 in
theorem looks_calls (w : World) {pt : Nat} {T : Tab} {F : Nat → Prop} {bm : Nat} {vr : Value} {FR FG : Nat → Prop} {D : DataW Unit} (h : IsT w pt T F bm vr FR FG D) :
    Calls Try.prog 23 #[ptr pt] w fun e w' => e = .returned (.tuple #[.int .i64 T.looked, .int .i64 T.same]) ∧ Drawn0 w w' := by
  have hb := h.blk
  have c4 : w.cell? ⟨pt, 4, none⟩ = some (.int .i64 T.looked) := (blk_cell hb 4).trans rfl
  have c5 : w.cell? ⟨pt, 5, none⟩ = some (.int .i64 T.same) := (blk_cell hb 5).trans rfl
  clear hb h
  go_enter Try.func23, Try.ntmps23
  go_wp2
  go_quiet (fail)
  go_wp2
  go_ret2
  exact ⟨rfl, ⟨⟨_, rfl⟩⟩⟩
end Go.Proofs.Ytgfokmgbphhpjaa.St
