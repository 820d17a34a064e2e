/- The walks of the functions that WordGrows reaches, after the print; mended by hand where the print's own text did not go through. -/
import Derived.Test.YtcnhcfmmlonjjaaPWordGrowsx0
import Derived.Test.YtcnhcfmmlonjjaaPWordGrowsx1
namespace Go.Proofs.Ytcnhcfmmlonjjaa.PWordGrows
open Go.RowKit Go.Proofs.YtcnhcfmmlonjjaaW.PrintWords Go.Proofs.YtcnhcfmmlonjjaaW.PrintLast Go.Proofs.YtcnhcfmmlonjjaaW.PrintMore
attribute [local go_sem] max2_int min2_int max_two min_two max_three min_three max_four min_four   -- for this text's walks alone
set_option linter.unusedVariables false
set_option linter.unusedSimpArgs false

/-! ### organonlaw01_WordGrows: function 10 -/
mutual
def organonlaw01_WordGrows.j0 : Nat → List Int → Int → Bool → Option (Bool)
  | 0, _, _, _ => none
  | k + 1, x0, x3, x14 => if x14 = true then (some false) else (organonlaw01_WordGrows.l0 k x0 x3 x0 (x0.length : Int) 0)
def organonlaw01_WordGrows.l0 : Nat → List Int → Int → List Int → Int → Int → Option (Bool)
  | 0, _, _, _, _, _ => none
  | k + 1, x0, x3, x15, x16, x17 => if x17 < x16 then (if 0 ≤ x17 then (if x17 < (x15.length : Int) then ((word_Mix.f x3 (IntKind.u64.wrap (rd x15 x17))).bind fun t120 => (if x17 < 40 then (if 0 ≤ (wrap64 (x17 + 1)) then (if (wrap64 (x17 + 1)) ≤ (x0.length : Int) then ((word_Digest.f k (x0.take ((wrap64 (x17 + 1)) : Int).toNat)).bind fun t122 => ((word_Mix.f t120 (IntKind.u64.wrap (wrap64 (x17 + 1)))).bind fun t123 => (if t122 = t123 then (organonlaw01_WordGrows.l0 k x0 t120 x15 x16 (wrap64 (x17 + 1))) else (some false)))) else (none)) else (none)) else (organonlaw01_WordGrows.l0 k x0 t120 x15 x16 (wrap64 (x17 + 1))))) else (none)) else (none)) else ((word_Digest.f k x0).bind fun t117 => ((word_Mix.f x3 (IntKind.u64.wrap ((x0.length : Int)))).bind fun t118 => (some (t117 == t118))))
end
def organonlaw01_WordGrows.f (k : Nat) (l0 : List Int) : Option (Bool) := (word_Digest.f k ([] : List Int)).bind fun t113 => ((word_Mix.f 14695981039346656037 0).bind fun t114 => (if t113 = t114 then ((word_Mix.f 1 2).bind fun t115 => ((organonref01_Mix.f k 1 2).bind fun t116 => (organonlaw01_WordGrows.j0 k l0 14695981039346656037 (t115 != t116)))) else (organonlaw01_WordGrows.j0 k l0 14695981039346656037 true)))
theorem organonlaw01_WordGrows.mono_l : ∀ k, (∀ y0 y1 y2, LeO (organonlaw01_WordGrows.j0 k y0 y1 y2) (organonlaw01_WordGrows.j0 (k + 1) y0 y1 y2)) ∧ (∀ y0 y1 y2 y3 y4, LeO (organonlaw01_WordGrows.l0 k y0 y1 y2 y3 y4) (organonlaw01_WordGrows.l0 (k + 1) y0 y1 y2 y3 y4))
  | 0 => ⟨fun _ _ _ r h => by simp [organonlaw01_WordGrows.j0] at h, fun _ _ _ _ _ r h => by simp [organonlaw01_WordGrows.l0] at h⟩
  | k + 1 => by
    obtain ⟨ih0, ih1⟩ := organonlaw01_WordGrows.mono_l k
    refine ⟨?_, ?_⟩
    · intro y0 y1 y2
      unfold organonlaw01_WordGrows.j0
      repeat' first
      | (with_reducible exact ih0 _ _ _)
      | (with_reducible exact ih1 _ _ _ _ _)
      | (with_reducible exact organonref01_Mix.mono _ _ _)
      | (with_reducible exact word_Digest.mono _ _)
      | (with_reducible exact LeO.refl _)
      | (with_reducible exact LeO.none _)
      | (with_reducible refine LeO.ite ?_ ?_)
      | (with_reducible refine LeO.bind ?_ (fun _ => ?_))
      | exact ih0 _ _ _
      | exact ih1 _ _ _ _ _
      | exact organonref01_Mix.mono _ _ _
      | exact word_Digest.mono _ _
      | exact LeO.none _
      | refine LeO.ite ?_ ?_
      | refine LeO.bind ?_ (fun _ => ?_)
    · intro y0 y1 y2 y3 y4
      unfold organonlaw01_WordGrows.l0
      repeat' first
      | (with_reducible exact ih0 _ _ _)
      | (with_reducible exact ih1 _ _ _ _ _)
      | (with_reducible exact organonref01_Mix.mono _ _ _)
      | (with_reducible exact word_Digest.mono _ _)
      | (with_reducible exact LeO.refl _)
      | (with_reducible exact LeO.none _)
      | (with_reducible refine LeO.ite ?_ ?_)
      | (with_reducible refine LeO.bind ?_ (fun _ => ?_))
      | exact ih0 _ _ _
      | exact ih1 _ _ _ _ _
      | exact organonref01_Mix.mono _ _ _
      | exact word_Digest.mono _ _
      | exact LeO.none _
      | refine LeO.ite ?_ ?_
      | refine LeO.bind ?_ (fun _ => ?_)
theorem organonlaw01_WordGrows.mono : ∀ a0 k, LeO (organonlaw01_WordGrows.f k a0) (organonlaw01_WordGrows.f (k + 1) a0) := by
  intro a0 k
  obtain ⟨ih0, ih1⟩ := organonlaw01_WordGrows.mono_l k
  unfold organonlaw01_WordGrows.f
  repeat' first
      | (with_reducible exact ih0 _ _ _)
      | (with_reducible exact ih1 _ _ _ _ _)
      | (with_reducible exact organonref01_Mix.mono _ _ _)
      | (with_reducible exact word_Digest.mono _ _)
      | (with_reducible exact LeO.refl _)
      | (with_reducible exact LeO.none _)
      | (with_reducible refine LeO.ite ?_ ?_)
      | (with_reducible refine LeO.bind ?_ (fun _ => ?_))
      | exact ih0 _ _ _
      | exact ih1 _ _ _ _ _
      | exact organonref01_Mix.mono _ _ _
      | exact word_Digest.mono _ _
      | exact LeO.none _
      | refine LeO.ite ?_ ?_
      | refine LeO.bind ?_ (fun _ => ?_)
set_option maxHeartbeats 8000000 in
set_option maxRecDepth 100000 in
theorem organonlaw01_WordGrows.calls (k : Nat) (A0 : Option Addr) (c0 : Nat) (l0 : List Int) (r : Bool) (w : World) (hr0 : Kd.C (Kd.int .u8) w A0 l0.length l0) (hc0 : l0.length ≤ c0) (h : organonlaw01_WordGrows.f k l0 = some r) :
    Calls Try.prog 10 #[.slice A0 l0.length c0] w fun e w' => e = .returned (.bool r) ∧ Drawn0 w w' := by
  have HR0 := Aside0.mk hr0
  have HC0 := Aside0.mk hc0
  clear hr0 hc0
  have H : ((word_Digest.f k ([] : List Int)).bind fun t113 => ((word_Mix.f 14695981039346656037 0).bind fun t114 => (if t113 = t114 then ((word_Mix.f 1 2).bind fun t115 => ((organonref01_Mix.f k 1 2).bind fun t116 => (organonlaw01_WordGrows.j0 k l0 14695981039346656037 (t115 != t116)))) else (organonlaw01_WordGrows.j0 k l0 14695981039346656037 true)))) = some r := h
  clear h
  have HC2 := Aside0.mk H
  clear H
  go_enter Try.func10, Try.ntmps10
  go_upto_region 2 with (fail)
  go_cut [14] (fun v14 wc => ∃ (kq : Nat) (x14_1 : Bool), v14 = .bool x14_1 ∧ Aside0 (organonlaw01_WordGrows.j0 kq l0 14695981039346656037 x14_1 = some r) ∧ Aside0 (kq ≤ k) ∧ Drawn0 w wc)
  case first =>
    have H := HC2.out
    clear HC2
    replace H := Option.bind_eq_some_iff.mp H
    obtain ⟨t113, A30, H⟩ := H
    replace H : ((word_Mix.f 14695981039346656037 0).bind fun t114 => (if t113 = t114 then ((word_Mix.f 1 2).bind fun t115 => ((organonref01_Mix.f k 1 2).bind fun t116 => (organonlaw01_WordGrows.j0 k l0 14695981039346656037 (t115 != t116)))) else (organonlaw01_WordGrows.j0 k l0 14695981039346656037 true))) = some r := H
    have A3 := Aside0.mk A30
    clear A30
    replace H := Option.bind_eq_some_iff.mp H
    obtain ⟨t114, A40, H⟩ := H
    replace H : (if t113 = t114 then ((word_Mix.f 1 2).bind fun t115 => ((organonref01_Mix.f k 1 2).bind fun t116 => (organonlaw01_WordGrows.j0 k l0 14695981039346656037 (t115 != t116)))) else (organonlaw01_WordGrows.j0 k l0 14695981039346656037 true)) = some r := H
    have A4 := Aside0.mk A40
    clear A40
    by_cases c5 : t113 = t114
    · rw [if_pos c5] at H
      have c5b0 : (t113 == t114) = true := beq_iff_eq.mpr c5
      have c5b1 : (t113 != t114) = false := bne_eq_false_iff_eq.mpr c5
      clear c5
      (first | rw [c5b0] | (simp only [i64_w, i32_w]; rw [c5b0]) | skip)
      replace H := Option.bind_eq_some_iff.mp H
      obtain ⟨t115, A60, H⟩ := H
      replace H : ((organonref01_Mix.f k 1 2).bind fun t116 => (organonlaw01_WordGrows.j0 k l0 14695981039346656037 (t115 != t116))) = some r := H
      have A6 := Aside0.mk A60
      clear A60
      replace H := Option.bind_eq_some_iff.mp H
      obtain ⟨t116, A70, H⟩ := H
      replace H : (organonlaw01_WordGrows.j0 k l0 14695981039346656037 (t115 != t116)) = some r := H
      have A7 := Aside0.mk A70
      clear A70
      have H' := Aside0.mk H
      clear H
      go_wp2_with (first | ((with_reducible refine gate_callee (f := 29) rfl ?_); refine goesL_ (some 6) rfl rfl Try.func29 (by kernel_rfl) rfl #[.slice none 0 0] rfl (by (try simp only [List.map_toArray, List.map_cons, List.map_nil]); first | done | rfl | (simp only [List.length_drop, List.length_take]; rfl)) ?_; (refine (word_Digest.calls k _ _ ([] : List Int) t113 _ ?side1 ?side2 A3.out).mono ?_); (case side1 => exact Kd.C_nil _ _); (case side2 => exact Nat.le_refl _); rintro e w' ⟨rfl, ⟨nd, rfl⟩⟩; refine ⟨_, rfl, ?_⟩) | ((with_reducible refine gate_callee (f := 27) rfl ?_); refine goesL_ (some 8) rfl rfl Try.func27 (by kernel_rfl) rfl #[.int .u64 14695981039346656037, .int .u64 0] rfl (by (try simp only [List.map_toArray, List.map_cons, List.map_nil]); first | done | rfl | (simp only [List.length_drop, List.length_take]; rfl)) ?_; (with_reducible refine (word_Mix.calls 14695981039346656037 0 t114 _ A4.out).mono ?_); rintro e w' ⟨rfl, ⟨nd, rfl⟩⟩; refine ⟨_, rfl, ?_⟩) | (go_at_call 27; (with_reducible refine (word_Mix.calls 1 2 t115 _ A6.out).mono ?_); rintro e w' ⟨rfl, ⟨nd, rfl⟩⟩) | (go_at_call 28; (with_reducible refine (organonref01_Mix.calls k 1 2 t116 _ A7.out).mono ?_); rintro e w' ⟨rfl, ⟨nd, rfl⟩⟩))
      go_meet
      case rel => exact ⟨_, ((t115 != t116)), (by first | rfl | (simp; done) | (simp [*]; done)), H', ⟨by first | omega | exact Nat.le_refl _⟩, by repeat (first | exact Drawn0.refl _ | apply Drawn0.step)⟩
    · rw [if_neg c5] at H
      have c5b0 : (t113 == t114) = false := beq_eq_false_iff_ne.mpr c5
      have c5b1 : (t113 != t114) = true := bne_iff_ne.mpr c5
      (first | rw [c5b0] | (simp only [i64_w, i32_w]; rw [c5b0]) | skip)
      have H' := Aside0.mk H
      clear H
      go_wp2_with (first | ((with_reducible refine gate_callee (f := 29) rfl ?_); refine goesL_ (some 6) rfl rfl Try.func29 (by kernel_rfl) rfl #[.slice none 0 0] rfl (by (try simp only [List.map_toArray, List.map_cons, List.map_nil]); first | done | rfl | (simp only [List.length_drop, List.length_take]; rfl)) ?_; (refine (word_Digest.calls k _ _ ([] : List Int) t113 _ ?side1 ?side2 A3.out).mono ?_); (case side1 => exact Kd.C_nil _ _); (case side2 => exact Nat.le_refl _); rintro e w' ⟨rfl, ⟨nd, rfl⟩⟩; refine ⟨_, rfl, ?_⟩) | ((with_reducible refine gate_callee (f := 27) rfl ?_); refine goesL_ (some 8) rfl rfl Try.func27 (by kernel_rfl) rfl #[.int .u64 14695981039346656037, .int .u64 0] rfl (by (try simp only [List.map_toArray, List.map_cons, List.map_nil]); first | done | rfl | (simp only [List.length_drop, List.length_take]; rfl)) ?_; (with_reducible refine (word_Mix.calls 14695981039346656037 0 t114 _ A4.out).mono ?_); rintro e w' ⟨rfl, ⟨nd, rfl⟩⟩; refine ⟨_, rfl, ?_⟩))
      go_meet
      case rel => exact ⟨_, (true), (by first | rfl | (simp; done) | (simp [*]; done)), H', ⟨by first | omega | exact Nat.le_refl _⟩, by repeat (first | exact Drawn0.refl _ | apply Drawn0.step)⟩
  case rest =>
    clear HC2
    try clear c1
    try clear c2
    try clear p2
    try clear c5
    try clear c5b0
    try clear c5b1
    obtain ⟨kq, x14_1, rfl, HA, HJ1, ⟨mc1, rfl⟩⟩ := hcut
    cases kq with
    | zero => exact absurd HA.out (by simp [organonlaw01_WordGrows.j0])
    | succ kj1 =>
      have H := HA.out
      clear HA
      simp only [organonlaw01_WordGrows.j0] at H
      by_cases c8 : x14_1 = true
      · subst c8
        have H1 : (some false) = some r := by rw [if_pos rfl] at H; exact H
        clear H
        have H := H1
        clear H1
        obtain rfl := Option.some.inj H
        go_wp2
        go_ret
        exact ⟨by first | rfl | (simp; done) | (simp [*]; done), by repeat (first | exact Drawn0.refl _ | apply Drawn0.step)⟩
      · replace c8 := Bool.eq_false_iff.mpr c8
        subst c8
        have H1 : (organonlaw01_WordGrows.l0 kj1 l0 14695981039346656037 l0 (l0.length : Int) 0) = some r := by rw [if_neg (show ¬ (false = true) by decide)] at H; exact H
        clear H
        have H := H1
        clear H1
        have H' := Aside0.mk H
        clear H
        go_wp2
        go_loopg [3, 17] kj1 (fun kq v3 v17 w' => ∃ (x3_2 : Int) (x17_2 : Int), v3 = .int .u64 x3_2 ∧ v17 = .int .i64 x17_2 ∧ Aside0 (organonlaw01_WordGrows.l0 kq l0 x3_2 l0 (l0.length : Int) x17_2 = some r) ∧ Aside0 (kq ≤ kj1) ∧ Drawn0 w w')
        case atStart => exact ⟨(14695981039346656037), (0), (by first | rfl | (simp; done) | (simp [*]; done)), (by first | rfl | (simp; done) | (simp [*]; done)), H', ⟨Nat.le_refl _⟩, by repeat (first | exact Drawn0.refl _ | apply Drawn0.step)⟩
        case round =>
          clear H'
          try clear c1
          try clear c2
          try clear p2
          try clear c5
          try clear c5b0
          try clear c5b1
          try clear c8
          try clear p2
          obtain ⟨x3_2, x17_2, rfl, rfl, HA, HK2, ⟨m2, rfl⟩⟩ := hrel
          cases gk with
          | zero => exact absurd HA.out (by simp [organonlaw01_WordGrows.l0])
          | succ k2 =>
            have H := HA.out
            clear HA
            simp only [organonlaw01_WordGrows.l0] at H
            by_cases c9 : x17_2 < (l0.length : Int)
            · rw [if_pos c9] at H
              have c9b0 : decide (x17_2 < (l0.length : Int)) = true := decide_eq_true c9
              clear c9
              by_cases c10 : 0 ≤ x17_2
              · rw [if_pos c10] at H
                have c10b0 : decide (0 ≤ x17_2) = true := decide_eq_true c10
                clear c10
                by_cases c11 : x17_2 < (l0.length : Int)
                · rw [if_pos c11] at H
                  have c11b0 : decide (x17_2 < (l0.length : Int)) = true := decide_eq_true c11
                  clear c11
                  replace H := Option.bind_eq_some_iff.mp H
                  obtain ⟨t120, A120, H⟩ := H
                  replace H : (if x17_2 < 40 then (if 0 ≤ (wrap64 (x17_2 + 1)) then (if (wrap64 (x17_2 + 1)) ≤ (l0.length : Int) then ((word_Digest.f k2 (l0.take ((wrap64 (x17_2 + 1)) : Int).toNat)).bind fun t122 => ((word_Mix.f t120 (IntKind.u64.wrap (wrap64 (x17_2 + 1)))).bind fun t123 => (if t122 = t123 then (organonlaw01_WordGrows.l0 k2 l0 t120 l0 (l0.length : Int) (wrap64 (x17_2 + 1))) else (some false)))) else (none)) else (none)) else (organonlaw01_WordGrows.l0 k2 l0 t120 l0 (l0.length : Int) (wrap64 (x17_2 + 1)))) = some r := H
                  have A12 := Aside0.mk A120
                  clear A120
                  by_cases c13 : x17_2 < 40
                  · rw [if_pos c13] at H
                    have c13b0 : decide (x17_2 < 40) = true := decide_eq_true c13
                    clear c13
                    obtain ⟨ji14, hji14⟩ : ∃ j_ : Int, (wrap64 (x17_2 + 1)) = j_ := ⟨_, rfl⟩
                    replace H : (if 0 ≤ (ji14) then (if (ji14) ≤ (l0.length : Int) then ((word_Digest.f k2 (l0.take ((ji14) : Int).toNat)).bind fun t122 => ((word_Mix.f t120 (IntKind.u64.wrap (ji14))).bind fun t123 => (if t122 = t123 then (organonlaw01_WordGrows.l0 k2 l0 t120 l0 (l0.length : Int) ji14) else (some false)))) else (none)) else (none)) = some r := by first | (rw [hji14] at H; exact H) | (simp only [hji14] at H ⊢; exact H)
                    (try rw [hji14] at A12)
                    have hji14w : (IntKind.i64.wrap (x17_2 + 1)) = ji14 := (i64_w _).trans hji14
                    by_cases c15 : 0 ≤ (ji14)
                    · rw [if_pos c15] at H
                      have c15b0 := eq_true c15
                      have c15b1 : decide (0 ≤ (ji14)) = true := decide_eq_true c15
                      clear c15
                      by_cases c16 : (ji14) ≤ (l0.length : Int)
                      · rw [if_pos c16] at H
                        have c16b0 := eq_true c16
                        have c16b1 : decide ((ji14) ≤ (l0.length : Int)) = true := decide_eq_true c16
                        clear c16
                        replace H := Option.bind_eq_some_iff.mp H
                        obtain ⟨t122, A170, H⟩ := H
                        replace H : ((word_Mix.f t120 (IntKind.u64.wrap (ji14))).bind fun t123 => (if t122 = t123 then (organonlaw01_WordGrows.l0 k2 l0 t120 l0 (l0.length : Int) ji14) else (some false))) = some r := H
                        have A17 := Aside0.mk A170
                        clear A170
                        replace H := Option.bind_eq_some_iff.mp H
                        obtain ⟨t123, A180, H⟩ := H
                        replace H : (if t122 = t123 then (organonlaw01_WordGrows.l0 k2 l0 t120 l0 (l0.length : Int) ji14) else (some false)) = some r := H
                        have A18 := Aside0.mk A180
                        clear A180
                        by_cases c19 : t122 = t123
                        · rw [if_pos c19] at H
                          have c19b0 : (t122 == t123) = true := beq_iff_eq.mpr c19
                          have c19b1 : (t122 != t123) = false := bne_eq_false_iff_eq.mpr c19
                          clear c19
                          have H' := Aside0.mk H
                          clear H
                          have p119 : 0 ≤ (x17_2 : Int) := of_decide_eq_true (by first | (with_reducible assumption) | assumption)
                          have q119 : x17_2 < (l0.length : Int) := of_decide_eq_true (by first | (with_reducible assumption) | assumption)
                          obtain ⟨ad119, e119, hx119_0⟩ := Kd.at_int HR0.out x17_2 p119 q119
                          cases e119
                          replace p119 := eq_true p119
                          replace q119 := eq_true q119
                          have LEN := Aside0.mk (show (l0.take ((ji14) : Int).toNat).length = ((ji14) : Int).toNat from by have g16 : (ji14) ≤ (l0.length : Int) := of_decide_eq_true c16b1; rw [List.length_take]; omega)
                          go_wp2_with (first | ((with_reducible refine gate_callee (f := 27) rfl ?_); refine goesL_ (some 25) rfl rfl Try.func27 (by kernel_rfl) rfl #[.int .u64 x3_2, .int .u64 (IntKind.u64.wrap (rd l0 x17_2))] rfl (by (try simp only [List.map_toArray, List.map_cons, List.map_nil]); first | done | rfl | (simp only [List.length_drop, List.length_take]; rfl)) ?_; (with_reducible refine (word_Mix.calls x3_2 (IntKind.u64.wrap (rd l0 x17_2)) t120 _ A12.out).mono ?_); rintro e w' ⟨rfl, ⟨nd, rfl⟩⟩; refine ⟨_, rfl, ?_⟩; obtain ⟨i020, hi020, _, hsz20, _⟩ := info_parts info5; obtain ⟨hcut20, hA20, hC20⟩ := print_take_of (P := Try.prog) (Value.int .u8) 0 41 5 .i64 Try.underlying41 hi020 hsz20 (some ad119) c0 l0 (ji14) (of_decide_eq_true (by first | (with_reducible assumption) | assumption)) (of_decide_eq_true (by first | (with_reducible assumption) | assumption)) HC0.out; have HR121 := Aside0.mk (Kd.C_of_reads (h1 := fun _ => rfl) (hA20 _ (Kd.reads_of_C HR0.out))); have HC121 := Aside0.mk hC20; clear hA20 hC20 hi020 hsz20) | (go_at_call 29; (refine Calls.mono (calls_of_args (args' := #[.slice _ (l0.take ((ji14) : Int).toNat).length _]) (by rw [LEN.out]) (word_Digest.calls k2 _ _ (l0.take ((ji14) : Int).toNat) t122 _ ?side1 ?side2 A17.out)) ?_); (case side1 => repeat (first | exact HR121.out | (with_reducible refine Kd.C_alloc ?_ _) | (with_reducible refine Kd.C_drewN ?_ _) | (with_reducible refine Kd.C_drew ?_))); (case side2 => exact HC121.out); rintro e w' ⟨rfl, ⟨nd, rfl⟩⟩) | (go_at_call 27; (with_reducible refine (word_Mix.calls t120 (IntKind.u64.wrap (ji14)) t123 _ A18.out).mono ?_); rintro e w' ⟨rfl, ⟨nd, rfl⟩⟩))
                          go_roundg k2
                          case measure => have := HJ1.out; have := HK2.out; omega
                          case rel => exact ⟨(t120), (ji14), (by first | rfl | (simp; done) | (simp [*]; done)), (by first | rfl | (simp; done) | (simp only [← hji14] <;> (first | rfl | simp)) | (simp [*]; done)), H', ⟨by have := HJ1.out; have := HK2.out; omega⟩, by repeat (first | exact Drawn0.refl _ | apply Drawn0.step)⟩
                        · rw [if_neg c19] at H
                          have c19b0 : (t122 == t123) = false := beq_eq_false_iff_ne.mpr c19
                          have c19b1 : (t122 != t123) = true := bne_iff_ne.mpr c19
                          obtain rfl := Option.some.inj H
                          have p119 : 0 ≤ (x17_2 : Int) := of_decide_eq_true (by first | (with_reducible assumption) | assumption)
                          have q119 : x17_2 < (l0.length : Int) := of_decide_eq_true (by first | (with_reducible assumption) | assumption)
                          obtain ⟨ad119, e119, hx119_0⟩ := Kd.at_int HR0.out x17_2 p119 q119
                          cases e119
                          replace p119 := eq_true p119
                          replace q119 := eq_true q119
                          have LEN := Aside0.mk (show (l0.take ((ji14) : Int).toNat).length = ((ji14) : Int).toNat from by have g16 : (ji14) ≤ (l0.length : Int) := of_decide_eq_true c16b1; rw [List.length_take]; omega)
                          go_wp2_with (first | ((with_reducible refine gate_callee (f := 27) rfl ?_); refine goesL_ (some 25) rfl rfl Try.func27 (by kernel_rfl) rfl #[.int .u64 x3_2, .int .u64 (IntKind.u64.wrap (rd l0 x17_2))] rfl (by (try simp only [List.map_toArray, List.map_cons, List.map_nil]); first | done | rfl | (simp only [List.length_drop, List.length_take]; rfl)) ?_; (with_reducible refine (word_Mix.calls x3_2 (IntKind.u64.wrap (rd l0 x17_2)) t120 _ A12.out).mono ?_); rintro e w' ⟨rfl, ⟨nd, rfl⟩⟩; refine ⟨_, rfl, ?_⟩; obtain ⟨i021, hi021, _, hsz21, _⟩ := info_parts info5; obtain ⟨hcut21, hA21, hC21⟩ := print_take_of (P := Try.prog) (Value.int .u8) 0 41 5 .i64 Try.underlying41 hi021 hsz21 (some ad119) c0 l0 (ji14) (of_decide_eq_true (by first | (with_reducible assumption) | assumption)) (of_decide_eq_true (by first | (with_reducible assumption) | assumption)) HC0.out; have HR121 := Aside0.mk (Kd.C_of_reads (h1 := fun _ => rfl) (hA21 _ (Kd.reads_of_C HR0.out))); have HC121 := Aside0.mk hC21; clear hA21 hC21 hi021 hsz21) | (go_at_call 29; (refine Calls.mono (calls_of_args (args' := #[.slice _ (l0.take ((ji14) : Int).toNat).length _]) (by rw [LEN.out]) (word_Digest.calls k2 _ _ (l0.take ((ji14) : Int).toNat) t122 _ ?side1 ?side2 A17.out)) ?_); (case side1 => repeat (first | exact HR121.out | (with_reducible refine Kd.C_alloc ?_ _) | (with_reducible refine Kd.C_drewN ?_ _) | (with_reducible refine Kd.C_drew ?_))); (case side2 => exact HC121.out); rintro e w' ⟨rfl, ⟨nd, rfl⟩⟩) | (go_at_call 27; (with_reducible refine (word_Mix.calls t120 (IntKind.u64.wrap (ji14)) t123 _ A18.out).mono ?_); rintro e w' ⟨rfl, ⟨nd, rfl⟩⟩))
                          go_ret
                          exact ⟨by first | rfl | (simp; done) | (simp only [← hji14] <;> (first | rfl | simp)) | (simp [*]; done), by repeat (first | exact Drawn0.refl _ | apply Drawn0.step)⟩
                      · rw [if_neg c16] at H
                        exact absurd H (by simp)
                    · rw [if_neg c15] at H
                      exact absurd H (by simp)
                  · rw [if_neg c13] at H
                    have c13b0 : decide (x17_2 < 40) = false := decide_eq_false c13
                    clear c13
                    have H' := Aside0.mk H
                    clear H
                    have p119 : 0 ≤ (x17_2 : Int) := of_decide_eq_true (by first | (with_reducible assumption) | assumption)
                    have q119 : x17_2 < (l0.length : Int) := of_decide_eq_true (by first | (with_reducible assumption) | assumption)
                    obtain ⟨ad119, e119, hx119_0⟩ := Kd.at_int HR0.out x17_2 p119 q119
                    cases e119
                    replace p119 := eq_true p119
                    replace q119 := eq_true q119
                    go_wp2_with (first | ((with_reducible refine gate_callee (f := 27) rfl ?_); refine goesL_ (some 25) rfl rfl Try.func27 (by kernel_rfl) rfl #[.int .u64 x3_2, .int .u64 (IntKind.u64.wrap (rd l0 x17_2))] rfl (by (try simp only [List.map_toArray, List.map_cons, List.map_nil]); first | done | rfl | (simp only [List.length_drop, List.length_take]; rfl)) ?_; (with_reducible refine (word_Mix.calls x3_2 (IntKind.u64.wrap (rd l0 x17_2)) t120 _ A12.out).mono ?_); rintro e w' ⟨rfl, ⟨nd, rfl⟩⟩; refine ⟨_, rfl, ?_⟩))
                    go_roundg k2
                    case measure => have := HJ1.out; have := HK2.out; omega
                    case rel => exact ⟨(t120), (wrap64 (x17_2 + 1)), (by first | rfl | (simp; done) | (simp [*]; done)), (by first | rfl | (simp; done) | (simp [*]; done)), H', ⟨by have := HJ1.out; have := HK2.out; omega⟩, by repeat (first | exact Drawn0.refl _ | apply Drawn0.step)⟩
                · rw [if_neg c11] at H
                  exact absurd H (by simp)
              · rw [if_neg c10] at H
                exact absurd H (by simp)
            · rw [if_neg c9] at H
              have c9b0 : decide (x17_2 < (l0.length : Int)) = false := decide_eq_false c9
              clear c9
              replace H := Option.bind_eq_some_iff.mp H
              obtain ⟨t117, A220, H⟩ := H
              replace H : ((word_Mix.f x3_2 (IntKind.u64.wrap ((l0.length : Int)))).bind fun t118 => (some (t117 == t118))) = some r := H
              have A22 := Aside0.mk A220
              clear A220
              replace H := Option.bind_eq_some_iff.mp H
              obtain ⟨t118, A230, H⟩ := H
              replace H : (some (t117 == t118)) = some r := H
              have A23 := Aside0.mk A230
              clear A230
              obtain rfl := Option.some.inj H
              go_wp2_with (first | ((with_reducible refine gate_callee (f := 29) rfl ?_); refine goesL_ (some 43) rfl rfl Try.func29 (by kernel_rfl) rfl #[.slice A0 l0.length c0] rfl (by (try simp only [List.map_toArray, List.map_cons, List.map_nil]); first | done | rfl | (simp only [List.length_drop, List.length_take]; rfl)) ?_; (with_reducible refine (word_Digest.calls k2 _ _ l0 t117 _ ?side1 ?side2 A22.out).mono ?_); (case side1 => repeat (first | exact HR0.out | (with_reducible refine Kd.C_alloc ?_ _) | (with_reducible refine Kd.C_drewN ?_ _) | (with_reducible refine Kd.C_drew ?_))); (case side2 => exact HC0.out); rintro e w' ⟨rfl, ⟨nd, rfl⟩⟩; refine ⟨_, rfl, ?_⟩) | ((with_reducible refine gate_callee (f := 27) rfl ?_); refine goesL_ (some 48) rfl rfl Try.func27 (by kernel_rfl) rfl #[.int .u64 x3_2, .int .u64 (IntKind.u64.wrap ((l0.length : Int)))] rfl (by (try simp only [List.map_toArray, List.map_cons, List.map_nil]); first | done | rfl | (simp only [List.length_drop, List.length_take]; rfl)) ?_; (with_reducible refine (word_Mix.calls x3_2 (IntKind.u64.wrap ((l0.length : Int))) t118 _ A23.out).mono ?_); rintro e w' ⟨rfl, ⟨nd, rfl⟩⟩; refine ⟨_, rfl, ?_⟩))
              go_ret
              exact ⟨by first | rfl | (simp; done) | (simp [*]; done), by repeat (first | exact Drawn0.refl _ | apply Drawn0.step)⟩

/-- THE ONE PURE STATEMENT of organonlaw01_WordGrows: yours. -/
def organonlaw01_WordGrows.Pure : Prop := ∀ (l0 : List Int), l0.length ≤ maxLen → l0.length * 1 ≤ 140737488351232 → (∀ x ∈ l0, (Lit.int .u8 x).wf = true) → ∃ k, organonlaw01_WordGrows.f k l0 = some true
theorem organonlaw01_WordGrows.walk (P : organonlaw01_WordGrows.Pure) (a0 : Option Addr) (len0 cap0 : Nat) (z0 : List Int) (w : World) (w0 : (a0 = none ∧ len0 = 0 ∧ cap0 = 0 ∧ z0 = []) ∨ ∃ x, a0 = some x ∧ len0 ≤ cap0 ∧ cap0 ≤ maxLen ∧ z0.length = cap0 ∧ (∀ i, i < z0.length → w.cell? (x.add i) = some (.int .u8 (z0.getD i 0))) ∧ ∀ n ∈ z0, (Lit.int .u8 n).wf = true) (y0 : len0 * 1 ≤ 140737488351232) :
    Calls Try.prog 10 #[.slice a0 len0 cap0] w fun e w' => e = .returned (.bool true) ∧ Below w.heap.size w w' := by
  obtain ⟨l0, rfl, hr0, hm0, hw0, hc0⟩ := ReadsInt.ofRowC w0
  obtain ⟨k, h⟩ := P l0 hm0 y0 hw0
  refine (organonlaw01_WordGrows.calls k _ _ l0 true w (Kd.C_of_reads (d := (0 : Int)) (h1 := fun _ => rfl) hr0) hc0 h).mono ?_
  rintro e w' ⟨rfl, hd⟩
  exact ⟨rfl, hd.below⟩

end Go.Proofs.Ytcnhcfmmlonjjaa.PWordGrows
