/- The walk of parse.number: every text, every bound from 0 to 1000. -/
import Derived.Test.YtipggffdknonmaaTkRune
namespace Go.Proofs.Ytipggffdknonmaa.Tk
open Go.RowKit Go.Proofs.YtipggffdknonmaaW.PrintWords Go.Proofs.YtipggffdknonmaaW.PrintLast Go.Proofs.YtipggffdknonmaaW.PrintMore
attribute [local go_sem] max2_int min2_int max_two min_two max_three min_three max_four min_four
set_option linter.unusedVariables false
set_option linter.unusedSimpArgs false
/-- The digits' number so far, at most one more than the bound, and how many there are. -/
def numF (most : Int) : List UInt8 → Int → Nat → Int × Nat
  | [], n, k => (n, k)
  | c :: l, n, k => if 48 ≤ c.toNat ∧ c.toNat ≤ 57 then numF most l (if most + 1 < 10 * n + ((c.toNat : Int) - 48) then most + 1 else 10 * n + ((c.toNat : Int) - 48)) (k + 1) else (n, k)
/-- What number answers. -/
def numL (most : Int) (l : List UInt8) : Int × Int :=
  if (numF most l 0 0).1 > most ∨ 1 < (numF most l 0 0).2 ∧ l.head? = some 48 then (0, 0) else ((numF most l 0 0).1, ((numF most l 0 0).2 : Int))
def numR (s : ByteArray) (most : Int) : Int × Int := numL most s.data.toList
theorem drop_get (s : ByteArray) (p : Nat) (h : p < s.size) : s.data.toList.drop p = s[p] :: s.data.toList.drop (p + 1) := by
  have hl : p < s.data.toList.length := by simpa using h
  rw [List.drop_eq_getElem_cons hl]
  rfl
def NumPost (s : ByteArray) (most : Int) (w : World) (e : Ending) (w' : World) : Prop := e = .returned (.tuple #[.int .i64 (numR s most).1, .int .i64 (numR s most).2]) ∧ Below w.heap.size w w'
theorem numR_zero {s : ByteArray} {most n : Int} {p : Nat} (h : numF most s.data.toList 0 0 = (n, p)) (hc : n > most ∨ 1 < p ∧ s.data.toList.head? = some 48) : numR s most = (0, 0) := by
  unfold numR numL; rw [h, if_pos hc]
theorem numR_some {s : ByteArray} {most n : Int} {p : Nat} (h : numF most s.data.toList 0 0 = (n, p)) (hc : ¬ (n > most ∨ 1 < p ∧ s.data.toList.head? = some 48)) : numR s most = (n, (p : Int)) := by
  unfold numR numL; rw [h, if_neg hc]
theorem head_is (s : ByteArray) (h : 0 < s.size) : s.data.toList.head? = some (s[0]'h) := by
  have := drop_get s 0 h
  rw [List.drop_zero] at this
  rw [this]; rfl
theorem numR_A {s : ByteArray} {most v : Int} {p : Nat} (h : numF most s.data.toList 0 0 = (v, p)) (h1 : v ≤ most) (h0 : 0 < s.size) (h2 : v ≤ most ∧ (((s[0]'h0).toNat : Int) == 48) = false) : numR s most = (v, (p : Int)) := by
  refine numR_some h (fun hc => ?_)
  rcases hc with hc | ⟨_, hc⟩
  · omega
  · rw [head_is s h0] at hc
    have e := Option.some.inj hc
    have := h2.2
    rw [e] at this
    exact absurd this (by decide)
theorem numR_B {s : ByteArray} {most v : Int} {p : Nat} (h : numF most s.data.toList 0 0 = (v, p)) (h1 : v ≤ most) (h2 : (p : Int) ≤ 1) : numR s most = (v, (p : Int)) := by
  refine numR_some h (fun hc => ?_)
  rcases hc with hc | ⟨hc, _⟩
  · omega
  · omega
theorem numR_C {s : ByteArray} {most v : Int} {p : Nat} (h : numF most s.data.toList 0 0 = (v, p)) (h1 : most < v) : numR s most = (0, 0) := numR_zero h (.inl h1)
theorem numR_D {s : ByteArray} {most v : Int} {p : Nat} (h : numF most s.data.toList 0 0 = (v, p)) (h1 : 1 < (p : Int)) (h0 : 0 < s.size) (h2 : most < v ∨ (((s[0]'h0).toNat : Int) == 48) = true) : numR s most = (0, 0) := by
  refine numR_zero h ?_
  rcases h2 with h2 | h2
  · exact .inl h2
  · refine .inr ⟨by omega, ?_⟩
    rw [head_is s h0]
    congr 1
    have := beq_iff_eq.1 h2
    apply UInt8.toNat_inj.1
    rw [show (48 : UInt8).toNat = 48 from rfl]; omega
theorem numF_stop {s : ByteArray} {most v : Int} {p : Nat} (h : p < s.size) (hd : ¬ (48 ≤ (s[p]'h).toNat ∧ (s[p]'h).toNat ≤ 57)) : numF most (s.data.toList.drop p) v p = (v, p) := by
  rw [drop_get s p h]
  simp only [numF]
  rw [if_neg hd]
theorem numF_end {s : ByteArray} {most v : Int} {p : Nat} (h : ¬ p < s.size) : numF most (s.data.toList.drop p) v p = (v, p) := by
  rw [List.drop_eq_nil_of_le (by simp; omega)]; rfl
theorem numF_step {s : ByteArray} {most v : Int} {p : Nat} (h : p < s.size) (hd : 48 ≤ (s[p]'h).toNat ∧ (s[p]'h).toNat ≤ 57) : numF most (s.data.toList.drop p) v p = numF most (s.data.toList.drop (p + 1)) (if most + 1 < 10 * v + (((s[p]'h).toNat : Int) - 48) then most + 1 else 10 * v + (((s[p]'h).toNat : Int) - 48)) (p + 1) := by
  rw [drop_get s p h]
  simp only [numF]
  rw [if_pos hd]
set_option maxHeartbeats 4000000 in
set_option maxRecDepth 1000000 in
theorem number_any (s : ByteArray) (most : Int) (w : World) (hs : s.size ≤ 100000) (m0 : 0 ≤ most) (m1 : most ≤ 1000) :
    Calls Try.prog 17 #[.string s, .int .i64 most] w (NumPost s most w) := by
  go_enter Try.func17, Try.ntmps17
  go_wp2
  go_loopw [6, 7] (fun n k w' => ∃ (p : Nat) (v : Int), w' = w.iter s p ∧ n = .int .i64 v ∧ k = .int .i64 p ∧ p ≤ s.size ∧ 0 ≤ v ∧ v ≤ most + 1 ∧ numF most (s.data.toList.drop p) v p = numF most s.data.toList 0 0) (fun _ _ w' => s.size - w'.iterPos w.heap.size)
  case atStart => exact ⟨0, 0, rfl, rfl, rfl, Nat.zero_le _, by omega, by omega, rfl⟩
  case round =>
    obtain ⟨p, v, rfl, rfl, rfl, hp, v0, v1, hF⟩ := hrel
    have HF := Aside0.mk hF
    clear hF
    by_cases hlt : p < s.size
    · by_cases hd : 48 ≤ (s[p]'hlt).toNat ∧ (s[p]'hlt).toNat ≤ 57
      · have hnx : ∀ ty, (Instr.next (.pointer (some ⟨w.heap.size, 0, none⟩)) true ty).run Try.prog (w.iter s p) = _ := fun ty => run_next_ascii w s p ty hlt (by omega)
        have t1 : decide (((s[p]'hlt).toNat : Int) < 48) = false := decide_eq_false (by omega)
        have t2 : decide ((57 : Int) < ((s[p]'hlt).toNat : Int)) = false := decide_eq_false (by omega)
        have b0 : 48 ≤ ((s[p]'hlt).toNat : Int) := by omega
        have b1 : ((s[p]'hlt).toNat : Int) ≤ 57 := by omega
        have HD := Aside0.mk hd
        have HLT := Aside0.mk hlt
        clear hd
        go_wp2
        go_roundw
        case rel => exact ⟨p + 1, _, rfl, rfl, rfl, HLT.out, by split <;> omega, by split <;> omega, by rw [← HF.out, numF_step HLT.out HD.out]⟩
        case measure =>
          simp only [World.iterPos_iter]
          omega
      · have hR : (Utf8.decode s p).1 < 48 ∨ 57 < (Utf8.decode s p).1 := by
          by_cases ha : (s[p]'hlt).toNat < 128
          · rw [decode_ascii s p hlt ha]
            show (s[p]'hlt).toNat < 48 ∨ 57 < (s[p]'hlt).toNat
            omega
          · have := (decode_high s p hlt (by omega)).1; omega
        have hle := decode_le s p
        have HE := Aside0.mk (HF.out.symm.trans (numF_stop (most := most) (v := v) hlt hd))
        have hnx : ∀ ty, (Instr.next (.pointer (some ⟨w.heap.size, 0, none⟩)) true ty).run Try.prog (w.iter s p) = _ := fun ty => run_next_any w s p ty hlt
        clear hd HF
        generalize (Utf8.decode s p).1 = R at *
        generalize (Utf8.decode s p).2 = W at *
        rcases hR with hR | hR
        · have t1 : decide ((R : Int) < 48) = true := decide_eq_true (by omega)
          go_wp2
          all_goals
            go_ret2
            first
              | exact ⟨by rw [numR_A HE.out (by assumption) (by assumption) (by assumption)]; rfl, below_iter _ _ _⟩
              | exact ⟨by rw [numR_B HE.out (by assumption) (by assumption)]; rfl, below_iter _ _ _⟩
              | exact ⟨by rw [numR_C HE.out (by assumption)]; rfl, below_iter _ _ _⟩
              | exact ⟨by rw [numR_D HE.out (by assumption) (by assumption) (by assumption)]; rfl, below_iter _ _ _⟩
        · have t1 : decide ((R : Int) < 48) = false := decide_eq_false (by omega)
          have t2 : decide ((57 : Int) < (R : Int)) = true := decide_eq_true (by omega)
          go_wp2
          all_goals
            go_ret2
            first
              | exact ⟨by rw [numR_A HE.out (by assumption) (by assumption) (by assumption)]; rfl, below_iter _ _ _⟩
              | exact ⟨by rw [numR_B HE.out (by assumption) (by assumption)]; rfl, below_iter _ _ _⟩
              | exact ⟨by rw [numR_C HE.out (by assumption)]; rfl, below_iter _ _ _⟩
              | exact ⟨by rw [numR_D HE.out (by assumption) (by assumption) (by assumption)]; rfl, below_iter _ _ _⟩
    · have hnx : ∀ ty, (Instr.next (.pointer (some ⟨w.heap.size, 0, none⟩)) true ty).run Try.prog (w.iter s p) = _ := fun ty => run_next_end w s p ty hlt
      have HE := Aside0.mk (HF.out.symm.trans (numF_end (most := most) (v := v) hlt))
      clear HF
      go_wp2
      all_goals
        go_ret2
        first
          | exact ⟨by rw [numR_A HE.out (by assumption) (by assumption) (by assumption)]; rfl, below_iter _ _ _⟩
          | exact ⟨by rw [numR_B HE.out (by assumption) (by assumption)]; rfl, below_iter _ _ _⟩
          | exact ⟨by rw [numR_C HE.out (by assumption)]; rfl, below_iter _ _ _⟩
          | exact ⟨by rw [numR_D HE.out (by assumption) (by assumption) (by assumption)]; rfl, below_iter _ _ _⟩
theorem number_at (s : ByteArray) (most n k : Int) (w : World) (hs : s.size ≤ 100000) (m0 : 0 ≤ most) (m1 : most ≤ 1000) (h : numL most s.data.toList = (n, k)) :
    Calls Try.prog 17 #[.string s, .int .i64 most] w fun e w' => e = .returned (.tuple #[.int .i64 n, .int .i64 k]) ∧ Below w.heap.size w w' :=
  (number_any s most w hs m0 m1).mono fun e w' ⟨h1, h2⟩ => ⟨by rw [h1]; unfold numR; rw [h], h2⟩
end Go.Proofs.Ytipggffdknonmaa.Tk
