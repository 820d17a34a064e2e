/- The walk of the reference's isSign: a row of ten constant bytes, gone through. -/
import Derived.Test.YtipggffdknonmaaTkRune
import Derived.Lib.SlBytesConst
namespace Go.Proofs.Ytipggffdknonmaa.Tk
open Go.RowKit Go.Proofs.YtipggffdknonmaaW.PrintWords Go.Proofs.YtipggffdknonmaaW.PrintLast Go.Proofs.YtipggffdknonmaaW.PrintMore
set_option linter.unusedVariables false
set_option linter.unusedSimpArgs false
/-- Is it one of the signs from the j-th on? -/
def fromS : Nat → List Int
  | 0 => [40, 41, 44, 61, 33, 62, 38, 124, 64, 63]
  | 1 => [41, 44, 61, 33, 62, 38, 124, 64, 63]
  | 2 => [44, 61, 33, 62, 38, 124, 64, 63]
  | 3 => [61, 33, 62, 38, 124, 64, 63]
  | 4 => [33, 62, 38, 124, 64, 63]
  | 5 => [62, 38, 124, 64, 63]
  | 6 => [38, 124, 64, 63]
  | 7 => [124, 64, 63]
  | 8 => [64, 63]
  | 9 => [63]
  | _ => []
theorem below_row (w : World) (o : Obj) : Below w.heap.size w (w.alloc o) := (Below.refl _ _).alloc (Nat.le_refl _) _
theorem cell_row (w : World) (j : Nat) (v : Value) (h : (#[Value.int IntKind.u8 40, Value.int IntKind.u8 41, Value.int IntKind.u8 44, Value.int IntKind.u8 61, Value.int IntKind.u8 33, Value.int IntKind.u8 62, Value.int IntKind.u8 38, Value.int IntKind.u8 124, Value.int IntKind.u8 64, Value.int IntKind.u8 63] : Array Value)[j]? = some v) : (w.alloc (Obj.cells #[Value.int IntKind.u8 40, Value.int IntKind.u8 41, Value.int IntKind.u8 44, Value.int IntKind.u8 61, Value.int IntKind.u8 33, Value.int IntKind.u8 62, Value.int IntKind.u8 38, Value.int IntKind.u8 124, Value.int IntKind.u8 64, Value.int IntKind.u8 63] 5 (10, 11))).cell? ⟨w.heap.size, j, none⟩ = some v := by
  have e : (w.alloc (Obj.cells #[Value.int IntKind.u8 40, Value.int IntKind.u8 41, Value.int IntKind.u8 44, Value.int IntKind.u8 61, Value.int IntKind.u8 33, Value.int IntKind.u8 62, Value.int IntKind.u8 38, Value.int IntKind.u8 124, Value.int IntKind.u8 64, Value.int IntKind.u8 63] 5 (10, 11))).heap[w.heap.size]? = some (Obj.cells #[Value.int IntKind.u8 40, Value.int IntKind.u8 41, Value.int IntKind.u8 44, Value.int IntKind.u8 61, Value.int IntKind.u8 33, Value.int IntKind.u8 62, Value.int IntKind.u8 38, Value.int IntKind.u8 124, Value.int IntKind.u8 64, Value.int IntKind.u8 63] 5 (10, 11)) := by
    show (w.heap.push (Obj.cells #[Value.int IntKind.u8 40, Value.int IntKind.u8 41, Value.int IntKind.u8 44, Value.int IntKind.u8 61, Value.int IntKind.u8 33, Value.int IntKind.u8 62, Value.int IntKind.u8 38, Value.int IntKind.u8 124, Value.int IntKind.u8 64, Value.int IntKind.u8 63] 5 (10, 11)))[w.heap.size]? = _
    simp
  simp only [World.cell?, e]
  exact h
theorem isSign_from (c : Int) : isSign c = decide (c ∈ fromS 0) := by
  unfold isSign fromS
  rw [decide_eq_decide]; simp
set_option maxHeartbeats 4000000 in
set_option maxRecDepth 1000000 in
theorem sign_any (c : Int) (w : World) :
    Calls Try.prog 18 #[.int .u8 c] w fun e w' => e = .returned (.bool (isSign c)) ∧ Below w.heap.size w w' := by
  have kc := fun (w : World) (C : Array Value) (n cc : Nat) => Lib.run_convert_bytes_const (P := Try.prog) w 53 5 C n cc Try.underlying53 Try.underlying5
  go_enter Try.func18, Try.ntmps18
  go_wp2
  go_loop [8] (fun i => ∃ j : Nat, i = .int .i64 j ∧ j ≤ 10 ∧ isSign c = decide (c ∈ fromS j)) (fun i => 10 - (intOf i).toNat)
  case atStart => exact ⟨0, rfl, by omega, isSign_from c⟩
  case round =>
    obtain ⟨j, rfl, hj, hs⟩ := hrel
    have HS := Aside0.mk hs
    clear hs
    rcases (show j = 0 ∨ j = 1 ∨ j = 2 ∨ j = 3 ∨ j = 4 ∨ j = 5 ∨ j = 6 ∨ j = 7 ∨ j = 8 ∨ j = 9 ∨ j = 10 by omega) with rfl | rfl | rfl | rfl | rfl | rfl | rfl | rfl | rfl | rfl | rfl
    · have hc := cell_row w 0 (.int .u8 40) rfl
      by_cases hx : c = 40
      · subst hx
        have E := Aside0.mk (show isSign 40 = true from rfl)
        go_wp2
        go_ret
        exact ⟨rfl, below_row _ _⟩
      · have t1 : ((40 : Int) == c) = false := beq_eq_false_iff_ne.mpr (Ne.symm hx)
        have HX := Aside0.mk hx
        clear hx
        go_wp2
        go_round
        case rel => exact ⟨1, rfl, by omega, by rw [HS.out, decide_eq_decide]; simp [fromS, HX.out]⟩
        case measure => simp [intOf]
    · have hc := cell_row w 1 (.int .u8 41) rfl
      by_cases hx : c = 41
      · subst hx
        have E := Aside0.mk (show isSign 41 = true from rfl)
        go_wp2
        go_ret
        exact ⟨rfl, below_row _ _⟩
      · have t1 : ((41 : Int) == c) = false := beq_eq_false_iff_ne.mpr (Ne.symm hx)
        have HX := Aside0.mk hx
        clear hx
        go_wp2
        go_round
        case rel => exact ⟨2, rfl, by omega, by rw [HS.out, decide_eq_decide]; simp [fromS, HX.out]⟩
        case measure => simp [intOf]
    · have hc := cell_row w 2 (.int .u8 44) rfl
      by_cases hx : c = 44
      · subst hx
        have E := Aside0.mk (show isSign 44 = true from rfl)
        go_wp2
        go_ret
        exact ⟨rfl, below_row _ _⟩
      · have t1 : ((44 : Int) == c) = false := beq_eq_false_iff_ne.mpr (Ne.symm hx)
        have HX := Aside0.mk hx
        clear hx
        go_wp2
        go_round
        case rel => exact ⟨3, rfl, by omega, by rw [HS.out, decide_eq_decide]; simp [fromS, HX.out]⟩
        case measure => simp [intOf]
    · have hc := cell_row w 3 (.int .u8 61) rfl
      by_cases hx : c = 61
      · subst hx
        have E := Aside0.mk (show isSign 61 = true from rfl)
        go_wp2
        go_ret
        exact ⟨rfl, below_row _ _⟩
      · have t1 : ((61 : Int) == c) = false := beq_eq_false_iff_ne.mpr (Ne.symm hx)
        have HX := Aside0.mk hx
        clear hx
        go_wp2
        go_round
        case rel => exact ⟨4, rfl, by omega, by rw [HS.out, decide_eq_decide]; simp [fromS, HX.out]⟩
        case measure => simp [intOf]
    · have hc := cell_row w 4 (.int .u8 33) rfl
      by_cases hx : c = 33
      · subst hx
        have E := Aside0.mk (show isSign 33 = true from rfl)
        go_wp2
        go_ret
        exact ⟨rfl, below_row _ _⟩
      · have t1 : ((33 : Int) == c) = false := beq_eq_false_iff_ne.mpr (Ne.symm hx)
        have HX := Aside0.mk hx
        clear hx
        go_wp2
        go_round
        case rel => exact ⟨5, rfl, by omega, by rw [HS.out, decide_eq_decide]; simp [fromS, HX.out]⟩
        case measure => simp [intOf]
    · have hc := cell_row w 5 (.int .u8 62) rfl
      by_cases hx : c = 62
      · subst hx
        have E := Aside0.mk (show isSign 62 = true from rfl)
        go_wp2
        go_ret
        exact ⟨rfl, below_row _ _⟩
      · have t1 : ((62 : Int) == c) = false := beq_eq_false_iff_ne.mpr (Ne.symm hx)
        have HX := Aside0.mk hx
        clear hx
        go_wp2
        go_round
        case rel => exact ⟨6, rfl, by omega, by rw [HS.out, decide_eq_decide]; simp [fromS, HX.out]⟩
        case measure => simp [intOf]
    · have hc := cell_row w 6 (.int .u8 38) rfl
      by_cases hx : c = 38
      · subst hx
        have E := Aside0.mk (show isSign 38 = true from rfl)
        go_wp2
        go_ret
        exact ⟨rfl, below_row _ _⟩
      · have t1 : ((38 : Int) == c) = false := beq_eq_false_iff_ne.mpr (Ne.symm hx)
        have HX := Aside0.mk hx
        clear hx
        go_wp2
        go_round
        case rel => exact ⟨7, rfl, by omega, by rw [HS.out, decide_eq_decide]; simp [fromS, HX.out]⟩
        case measure => simp [intOf]
    · have hc := cell_row w 7 (.int .u8 124) rfl
      by_cases hx : c = 124
      · subst hx
        have E := Aside0.mk (show isSign 124 = true from rfl)
        go_wp2
        go_ret
        exact ⟨rfl, below_row _ _⟩
      · have t1 : ((124 : Int) == c) = false := beq_eq_false_iff_ne.mpr (Ne.symm hx)
        have HX := Aside0.mk hx
        clear hx
        go_wp2
        go_round
        case rel => exact ⟨8, rfl, by omega, by rw [HS.out, decide_eq_decide]; simp [fromS, HX.out]⟩
        case measure => simp [intOf]
    · have hc := cell_row w 8 (.int .u8 64) rfl
      by_cases hx : c = 64
      · subst hx
        have E := Aside0.mk (show isSign 64 = true from rfl)
        go_wp2
        go_ret
        exact ⟨rfl, below_row _ _⟩
      · have t1 : ((64 : Int) == c) = false := beq_eq_false_iff_ne.mpr (Ne.symm hx)
        have HX := Aside0.mk hx
        clear hx
        go_wp2
        go_round
        case rel => exact ⟨9, rfl, by omega, by rw [HS.out, decide_eq_decide]; simp [fromS, HX.out]⟩
        case measure => simp [intOf]
    · have hc := cell_row w 9 (.int .u8 63) rfl
      by_cases hx : c = 63
      · subst hx
        have E := Aside0.mk (show isSign 63 = true from rfl)
        go_wp2
        go_ret
        exact ⟨rfl, below_row _ _⟩
      · have t1 : ((63 : Int) == c) = false := beq_eq_false_iff_ne.mpr (Ne.symm hx)
        have HX := Aside0.mk hx
        clear hx
        go_wp2
        go_round
        case rel => exact ⟨10, rfl, by omega, by rw [HS.out, decide_eq_decide]; simp [fromS, HX.out]⟩
        case measure => simp [intOf]
    · have E := Aside0.mk (show isSign c = false by rw [HS.out]; rfl)
      go_wp2
      go_ret
      exact ⟨by rw [E.out]; rfl, below_row _ _⟩
end Go.Proofs.Ytipggffdknonmaa.Tk
