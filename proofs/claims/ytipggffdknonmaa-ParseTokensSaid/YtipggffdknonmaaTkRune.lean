/- The walks of strings.ContainsRune at parse's own signs, at every rune; of parse.symbol and parse.number. -/
import Derived.Test.YtipggffdknonmaaPParseTokensx0
import Derived.Laws.Runes
import Derived.Deep.QuietTactic
import Derived.BigQuiet
import Derived.WalkMore
import Derived.Laws.RangeString
import Derived.Laws.RangeAny
import Derived.Shelf.Strings.Search1
namespace Go.Proofs.Ytipggffdknonmaa.Tk
open Go.RowKit Go.Proofs.YtipggffdknonmaaW.PrintWords Go.Proofs.YtipggffdknonmaaW.PrintLast Go.Proofs.YtipggffdknonmaaW.PrintMore
set_option linter.unusedVariables false
set_option linter.unusedSimpArgs false
abbrev signs : ByteArray := { data := #[40, 41, 44, 61, 33, 62, 38, 124, 64, 63] }
theorem lite (s : ByteArray) (c : Int) (w : World) :
    Calls Try.prog 63 #[.string s, .int .u8 c] w fun e w' => e = .returned (.int .i64 (Lib.indexByte s.data.toList c.toNat.toUInt8)) ∧ w = w' := by
  go_enter Try.func63, Try.ntmps63
  go_wp2
  rw [run_callFunc_extern Try.func70 (by kernel_rfl) (by kernel_rfl) (by kernel_rfl) (e := Extern.BytealgIndexByte.indexByte) (by kernel_rfl), Lib.run_indexByteString]
  simp only [Result.andThen]
  rw [Oper.upon_value]
  go_wp2
  go_ret
  exact ⟨rfl, rfl⟩
theorem idx (s : ByteArray) (c : Int) (w : World) :
    Calls Try.prog 51 #[.string s, .int .u8 c] w fun e w' => e = .returned (.int .i64 (Lib.indexByte s.data.toList c.toNat.toUInt8)) ∧ w = w' := by
  go_enter Try.func51, Try.ntmps51
  go_wp2_with (go_at_call 63; refine (lite _ _ _).mono ?_; rintro e w' ⟨rfl, rfl⟩)
  go_ret
  exact ⟨rfl, rfl⟩
set_option maxHeartbeats 2000000 in
set_option maxRecDepth 1000000 in
theorem rune_low (s : ByteArray) (r : Int) (w : World) (h0 : 0 ≤ r) (h1 : r < 128) :
    Calls Try.prog 30 #[.string s, .int .i32 r] w fun e w' => e = .returned (.int .i64 (Lib.indexByte s.data.toList r.toNat.toUInt8)) ∧ w = w' := by
  go_enter Try.func30, Try.ntmps30
  go_wp2_with (go_at_call 51; refine (idx _ _ _).mono ?_; rintro e w' ⟨rfl, rfl⟩)
  go_ret
  exact ⟨rfl, rfl⟩
theorem valid_any (r : Int) (w : World) (h0 : 0 ≤ r) (h1 : r ≤ 2147483647) :
    Calls Try.prog 52 #[.int .i32 r] w fun e w' => e = .returned (.bool (validRune r)) ∧ w = w' := by
  by_cases ha : r < 55296
  · have e : validRune r = true := by unfold validRune; exact decide_eq_true (.inl ⟨h0, ha⟩)
    rw [e]
    go_enter Try.func52, Try.ntmps52
    go_wp2
    go_ret
    exact ⟨rfl, rfl⟩
  · by_cases hb : 57343 < r
    · by_cases hc : r ≤ 1114111
      · have e : validRune r = true := by unfold validRune; exact decide_eq_true (.inr ⟨hb, hc⟩)
        rw [e]
        go_enter Try.func52, Try.ntmps52
        go_wp2
        go_ret
        exact ⟨by simp; try omega, rfl⟩
      · have e : validRune r = false := by unfold validRune; exact decide_eq_false (by omega)
        rw [e]
        go_enter Try.func52, Try.ntmps52
        go_wp2
        go_ret
        exact ⟨by simp; try omega, rfl⟩
    · have e : validRune r = false := by unfold validRune; exact decide_eq_false (by omega)
      rw [e]
      go_enter Try.func52, Try.ntmps52
      go_wp2
      go_ret
      exact ⟨by simp; try omega, rfl⟩
set_option maxHeartbeats 2000000 in
set_option maxRecDepth 1000000 in
theorem rune_bad (r : Int) (w : World) (h0 : 128 ≤ r) (h1 : r ≤ 2147483647) (hne : (r == 65533) = false) (hv : validRune r = false) :
    Calls Try.prog 30 #[.string signs, .int .i32 r] w fun e w' => e = .returned (.int .i64 (-1)) ∧ w = w' := by
  have V := Aside0.mk (hv)
  clear hv
  go_enter Try.func30, Try.ntmps30
  go_wp2_with (go_at_call 52; refine (valid_any r _ (by omega) h1).mono ?_; rintro e w' ⟨rfl, rfl⟩; rw [V.out])
  go_ret
  exact ⟨rfl, rfl⟩
theorem below_iter (w : World) (s : ByteArray) (pos : Nat) : Below w.heap.size w (w.iter s pos) := (Below.refl _ _).alloc (Nat.le_refl _) _
theorem signs_low : ∀ (pos : Nat) (h : pos < signs.size), (signs[pos]'h).toNat < 128 := by decide
set_option maxHeartbeats 2000000 in
set_option maxRecDepth 1000000 in
theorem rune_err (w : World) :
    Calls Try.prog 30 #[.string signs, .int .i32 65533] w fun e w' => e = .returned (.int .i64 (-1)) ∧ Below w.heap.size w w' := by
  go_enter Try.func30, Try.ntmps30
  go_wp2
  go_loopw [5, 6] (fun i r w' => ∃ pos : Nat, w' = w.iter signs pos ∧ pos ≤ signs.size) (fun _ _ w' => signs.size - w'.iterPos w.heap.size)
  case atStart => exact ⟨0, rfl, by decide⟩
  case round =>
    obtain ⟨pos, rfl, hp0⟩ := hrel
    by_cases hp : pos < signs.size
    · have hlow := signs_low pos hp
      have hnx : ∀ ty, (Instr.next (.pointer (some ⟨w.heap.size, 0, none⟩)) true ty).run Try.prog (w.iter signs pos) = _ := fun ty => run_next_ascii w signs pos ty hp hlow
      have hne : (((signs[pos]'hp).toNat : Int) == 65533) = false := by rw [beq_eq_false_iff_ne]; omega
      have HL := Aside0.mk hlow
      clear hlow
      go_wp2
      go_roundw
      case rel => exact ⟨pos + 1, rfl, hp⟩
      case measure =>
        simp only [World.iterPos_iter]
        omega
    · have hnx : ∀ ty, (Instr.next (.pointer (some ⟨w.heap.size, 0, none⟩)) true ty).run Try.prog (w.iter signs pos) = _ := fun ty => run_next_end w signs pos ty hp
      go_wp2
      go_ret
      exact ⟨rfl, below_iter _ _ _⟩
/-- A quiet call behind a quiet region, the contract's world on the left. -/
theorem quiet_add_left {P : Program} {f : FuncId} {args : Array Value} {w : World} {a n : Nat} {v : Value}
    (h : Calls P f args (w.drewN (a + n)) fun e w' => e = .returned v ∧ w.drewN (a + n) = w') :
    Calls P f args (w.drewN (a + n)) fun e w'' => e = .returned v ∧ ∃ m, w'' = w.drewN (a + m) :=
  h.mono fun _ _ ⟨he, hm⟩ => ⟨he, n, hm.symm⟩
theorem index_none (c : UInt8) (hc : 128 ≤ c.toNat) : ∀ l : List UInt8, (∀ b ∈ l, b.toNat < 128) → Lib.indexByte l c = -1
  | [], _ => rfl
  | b :: l, h => by
    have hb := h b (by simp)
    have hne : (b == c) = false := by
      rw [beq_eq_false_iff_ne]
      intro e; subst e; omega
    simp [Lib.indexByte, hne, index_none c hc l (fun x hx => h x (by simp [hx]))]
theorem signs_list : ∀ b ∈ signs.data.toList, b.toNat < 128 := by decide
theorem idx_none (a : Nat) (c : UInt8) (hc : 128 ≤ c.toNat) (w : World) :
    Calls Try.prog 51 #[.string (signs.extract a 10), .int .u8 (c.toNat : Int)] w fun e w' => e = .returned (.int .i64 (-1)) ∧ w = w' := by
  have h := idx (signs.extract a 10) (c.toNat : Int) w
  have e : ((c.toNat : Int)).toNat.toUInt8 = c := by simp
  rw [e, index_none c hc _ (fun b hb => signs_list b (mem_extract hb))] at h
  exact h
set_option maxHeartbeats 4000000 in
set_option maxRecDepth 1000000 in
theorem rune_enc (r : Int) (E : ByteArray) (n : Nat) (hn : n = 1 ∨ n = 2 ∨ n = 3) (hE : E.size = n + 1) (hb : ∀ h : n < E.size, 128 ≤ (E[n]'h).toNat) (w : World) (h0 : 128 ≤ r) (h1 : r ≤ 2147483647) (hne : (r == 65533) = false) (hv : validRune r = true)
    (hc : ∀ w, (convert 21 9 (.int .i32 r)).run Try.prog w = .ok (.string E) w) :
    Calls Try.prog 30 #[.string signs, .int .i32 r] w fun e w' => e = .returned (.int .i64 (-1)) ∧ ∃ nd, w' = w.drewN nd := by
  have V := Aside0.mk hv
  have hbb := hb (by omega)
  have HBB := Aside0.mk hbb
  have hsz : E.size = n + 1 := hE
  clear hv hb
  rcases hn with rfl | rfl | rfl
  · have hx2 : ((41 : Int) != (E[1].toNat : Int)) = true := by rw [bne_iff_ne]; omega
    have hl : 1 < E.size := by omega
    have hx3 : ((signs[1].toNat : Int) != (E[1].toNat : Int)) = true := hx2
    clear hbb
    go_enter Try.func30, Try.ntmps30
    go_wp2_with (go_at_call 52; refine (valid_any r _ (by omega) h1).mono ?_; rintro e w' ⟨rfl, rfl⟩; rw [V.out])
    go_step3
    go_wp2
    refine wp_loop_rounds 1 ?_
    rw [rounds_succ]
    go_wp2
    go_step3
    go_wp2
    go_quiet (fail)
    go_wp2
    go_quiet ((go_at_call 51; exact quiet_add_left (idx_none _ E[1] HBB.out _)))
    go_wp2
    rw [Exit.noGoto_ret]
    go_wp2
    rw [Exit.noGoto_ret]
    go_ret
    exact ⟨rfl, _, rfl⟩
  · have hx2 : ((44 : Int) != (E[2].toNat : Int)) = true := by rw [bne_iff_ne]; omega
    have hl : 2 < E.size := by omega
    have hx3 : ((signs[2].toNat : Int) != (E[2].toNat : Int)) = true := hx2
    clear hbb
    go_enter Try.func30, Try.ntmps30
    go_wp2_with (go_at_call 52; refine (valid_any r _ (by omega) h1).mono ?_; rintro e w' ⟨rfl, rfl⟩; rw [V.out])
    go_step3
    go_wp2
    refine wp_loop_rounds 1 ?_
    rw [rounds_succ]
    go_wp2
    go_step3
    go_wp2
    go_quiet (fail)
    go_wp2
    go_quiet ((go_at_call 51; exact quiet_add_left (idx_none _ E[2] HBB.out _)))
    go_wp2
    rw [Exit.noGoto_ret]
    go_wp2
    rw [Exit.noGoto_ret]
    go_ret
    exact ⟨rfl, _, rfl⟩
  · have hx2 : ((61 : Int) != (E[3].toNat : Int)) = true := by rw [bne_iff_ne]; omega
    have hl : 3 < E.size := by omega
    have hx3 : ((signs[3].toNat : Int) != (E[3].toNat : Int)) = true := hx2
    clear hbb
    go_enter Try.func30, Try.ntmps30
    go_wp2_with (go_at_call 52; refine (valid_any r _ (by omega) h1).mono ?_; rintro e w' ⟨rfl, rfl⟩; rw [V.out])
    go_step3
    go_wp2
    refine wp_loop_rounds 1 ?_
    rw [rounds_succ]
    go_wp2
    go_step3
    go_wp2
    go_quiet (fail)
    go_wp2
    go_quiet ((go_at_call 51; exact quiet_add_left (idx_none _ E[3] HBB.out _)))
    go_wp2
    rw [Exit.noGoto_ret]
    go_wp2
    rw [Exit.noGoto_ret]
    go_ret
    exact ⟨rfl, _, rfl⟩
/-- Is a rune one of the signs? -/
def isSign (r : Int) : Bool := decide (r = 40 ∨ r = 41 ∨ r = 44 ∨ r = 61 ∨ r = 33 ∨ r = 62 ∨ r = 38 ∨ r = 124 ∨ r = 64 ∨ r = 63)
theorem sign_low : ∀ r : Nat, r < 128 → decide (0 ≤ Lib.indexByte signs.data.toList r.toUInt8) = isSign r := by decide +kernel
theorem rune_high (r : Int) (w : World) (h0 : 128 ≤ r) (h1 : r ≤ 2147483647) :
    Calls Try.prog 30 #[.string signs, .int .i32 r] w fun e w' => e = .returned (.int .i64 (-1)) ∧ ∃ nd, Below w.heap.size (w.drewN nd) w' := by
  by_cases he : r = 65533
  · subst he
    exact (rune_err w).mono fun e w' ⟨h, hb⟩ => ⟨h, 0, hb⟩
  · have hne : (r == 65533) = false := beq_eq_false_iff_ne.mpr he
    cases hv : validRune r with
    | false => exact (rune_bad r w h0 h1 hne hv).mono fun e w' ⟨h, hw⟩ => ⟨h, 0, by subst hw; exact Below.refl _ _⟩
    | true =>
      obtain ⟨s2, s4, hb⟩ := encode_facts r (by rw [validRune_eq]; exact hv) h0
      have hc : ∀ w, (convert 21 9 (.int .i32 r)).run Try.prog w = .ok (.string (Utf8.encode r)) w := fun w => run_convert_int_string w 21 9 .i32 r (by kernel_rfl) Try.underlying9
      generalize Utf8.encode r = E at *
      obtain ⟨n, hn⟩ : ∃ n, E.size = n + 1 := ⟨E.size - 1, by omega⟩
      rw [show E.size - 1 = n from by omega] at hb
      exact (rune_enc r E n (by omega) hn hb w h0 h1 hne hv hc).mono fun e w' ⟨h, nd, hw⟩ => ⟨h, nd, by subst hw; exact Below.refl _ _⟩
theorem contains_nd (r : Int) (w : World) (h0 : 0 ≤ r) (h1 : r ≤ 2147483647) :
    Calls Try.prog 16 #[.string signs, .int .i32 r] w fun e w' => e = .returned (.bool (isSign r)) ∧ ∃ nd, Below w.heap.size (w.drewN nd) w' := by
  by_cases hl : r < 128
  · have hs := sign_low r.toNat (by omega)
    rw [show ((r.toNat : Nat) : Int) = r from by omega] at hs
    have HS := Aside0.mk hs
    clear hs
    go_enter Try.func16, Try.ntmps16
    go_wp2_with (go_at_call 30; refine (rune_low signs r _ h0 hl).mono ?_; rintro e w' ⟨rfl, rfl⟩)
    go_ret
    exact ⟨by rw [HS.out]; rfl, 0, Below.refl _ _⟩
  · have hs : isSign r = false := by unfold isSign; exact decide_eq_false (by omega)
    have HS := Aside0.mk hs
    clear hs
    go_enter Try.func16, Try.ntmps16
    go_wp2_with (go_at_call 30; refine (rune_high r _ (by omega) h1).mono ?_; rintro e w' ⟨rfl, nd, hb⟩; have HB := Aside0.mk hb; clear hb)
    go_ret
    exact ⟨by rw [HS.out]; rfl, nd, HB.out⟩
theorem contains_any (r : Int) (w : World) (h0 : 0 ≤ r) (h1 : r ≤ 2147483647) :
    Calls Try.prog 16 #[.string signs, .int .i32 r] w fun e w' => e = .returned (.bool (isSign r)) ∧ Below w.heap.size w w' :=
  (contains_nd r w h0 h1).mono fun e w' ⟨h, nd, hb⟩ => ⟨h, (pw_below_drewN (Below.refl _ _) nd).trans hb⟩
end Go.Proofs.Ytipggffdknonmaa.Tk
