/- (*Table).Get. -/
import Derived.Test.YtgfokmgbphhpjaaStPut
namespace Go.Proofs.Ytgfokmgbphhpjaa.St
open Go.RowKit Go.Proofs.YtgfokmgbphhpjaaW.PrintWords Go.Proofs.YtgfokmgbphhpjaaW.PrintLast Go.Proofs.YtgfokmgbphhpjaaW.PrintMore Go.Proofs.Ytgfokmgbphhpjaa.PStampKeeps
open Go.Maps Go.WideElems Go.MapKept Go.ChangeMaps Go.ChangeShapes
set_option linter.unusedVariables false
set_option linter.unusedSimpArgs false
set_option maxHeartbeats 4000000 in
set_option maxRecDepth 1000000 in
theorem get_not (w : World) {pt : Nat} {T : Tab} {F : Nat → Prop} {bm : Nat} {vr : Value} {FR FG : Nat → Prop} {D : DataW Unit} (h : IsT w pt T F bm vr FR FG D) (n : Int) (hn : n < 0 ∨ (T.rows.length : Int) ≤ n) :
    Calls Try.prog 25 #[ptr pt, .int .i64 n] w fun e w' => e = .returned (.tuple #[.slice none 0 0, .bool false]) ∧ w' = w := by
  obtain ⟨A, c, e⟩ := Kd.R_slice h.rows
  have hb := h.blk
  rw [e] at hb
  have c2 : w.cell? ⟨pt, 2, none⟩ = some (.slice A T.rows.length c) := (blk_cell hb 2).trans rfl
  clear hb h e
  by_cases h0 : n < 0
  · have q0 : decide (n < 0) = true := decide_eq_true h0
    clear h0 hn
    go_enter Try.func25, Try.ntmps25
    go_wp2
    go_ret2
    exact ⟨rfl, rfl⟩
  · have q0 : decide (n < 0) = false := decide_eq_false h0
    have q1 : decide ((T.rows.length : Int) ≤ n) = true := decide_eq_true (by omega)
    clear h0 hn
    go_enter Try.func25, Try.ntmps25
    go_wp2
    go_ret2
    exact ⟨rfl, rfl⟩
set_option maxHeartbeats 4000000 in
set_option maxRecDepth 1000000 in
theorem get_calls (w : World) {pt : Nat} {T : Tab} {F : Nat → Prop} {bm : Nat} {vr : Value} {FR FG : Nat → Prop} {D : DataW Unit} (h : IsT w pt T F bm vr FR FG D) (n : Int) (h0 : 0 ≤ n) (h1 : n < T.rows.length) :
    Calls Try.prog 25 #[ptr pt, .int .i64 n] w fun e w' => ∃ A c, e = .returned (.tuple #[.slice A (T.rows.getD n.toNat []).length (T.rows.getD n.toNat []).length, .bool true]) ∧ Kd.R (Kd.int .u8) 5 w' w.heap.size (fun _ => True) (.slice A (T.rows.getD n.toNat []).length c) (T.rows.getD n.toNat []) ∧ Below w.heap.size w w' := by
  obtain ⟨A, c, e⟩ := Kd.R_slice h.rows
  subst e
  have c2 : w.cell? ⟨pt, 2, none⟩ = some (.slice A T.rows.length c) := (blk_cell h.blk 2).trans rfl
  obtain ⟨ad2, A0, c0, e2, hcell, hle, hC0⟩ := at_L6 (Kd.R_reads' h.rows).2.2 n h0 h1
  subst e2
  have HBY := Aside0.mk (h.byt (rd_L6 T.rows n) (by unfold rd_L6; rw [List.getD_eq_getElem?_getD, List.getElem?_eq_getElem (by omega)]; exact List.getElem_mem _)).1
  have HQ := Aside0.mk (show rd_L6 T.rows n = T.rows.getD n.toNat [] from rfl)
  obtain ⟨row, hrow⟩ : ∃ row, rd_L6 T.rows n = row := ⟨_, rfl⟩
  rw [hrow] at hcell hle hC0 HBY HQ
  rw [← HQ.out]
  have HLE := Aside0.mk hle
  have HC0 := Aside0.mk hC0
  have q0 : decide (n < 0) = false := decide_eq_false (by omega)
  have q1 : decide ((T.rows.length : Int) ≤ n) = false := decide_eq_false (by omega)
  clear h hrow hle hC0
  go_enter Try.func25, Try.ntmps25
  go_wp2_with fail
  refine (clone_bytes A0 c0 row w HC0.out (by have := HBY.out; omega)).mono ?_
  rintro e w2 ⟨v, rfl, hr, hb⟩
  obtain ⟨A3, c3, rfl⟩ := Kd.R_slice hr
  have HR := Aside0.mk hr
  have HB := Aside0.mk hb
  clear hr hb
  go_wp2_with fail
  refine (clip_calls A3 row.length c3 (Kd.R_reads' HR.out).2.1 (by have := HBY.out; omega) _).mono ?_
  rintro e w3 ⟨rfl, rfl⟩
  go_wp2
  go_ret2
  exact ⟨A3, c3, rfl, HR.out, HB.out⟩
end Go.Proofs.Ytgfokmgbphhpjaa.St
