-- PRINTED BY print.sh 35421559b90ae4d0a3588c463048766b98c2df88dd9212a6774a882060cdf62d: not written by this session
import Derived.Test.YtcnhcfmmlonjjaaPWordUnpacksx0
namespace Go.Proofs.Ytcnhcfmmlonjjaa.PWordUnpacks
open Go.RowKit Go.Proofs.YtcnhcfmmlonjjaaW.PrintWords Go.Proofs.YtcnhcfmmlonjjaaW.PrintLast Go.Proofs.YtcnhcfmmlonjjaaW.PrintMore
attribute [local go_sem] max2_int min2_int max_two min_two max_three min_three max_four min_four   -- for this text's walks alone
set_option linter.unusedVariables false
set_option linter.unusedSimpArgs false

/-! ### word_Pack: function 24 -/
def word_Pack.f (a0 : Int) (a1 : Int) (a2 : Int) : Option (Int × Int) := if ((a0) % 256) = a0 then (if (wrap64 (IntKind.u16.wrap (a1))) = a1 then (if ((a2) % 256) = a2 then (some (Go.bits .or .u32 (Go.bits .or .u32 ((((a0) % 4294967296) * 16777216) % 4294967296) ((((a1) % 4294967296) * 256) % 4294967296)) ((a2) % 4294967296), 0)) else (some (0, 1))) else (some (0, 1))) else (some (0, 1))
set_option maxHeartbeats 8000000 in
set_option maxRecDepth 100000 in
theorem word_Pack.calls (a0 : Int) (a1 : Int) (a2 : Int) (r1 : Int) (r2 : Int) (w : World) (h : word_Pack.f a0 a1 a2 = some (r1, r2)) :
    Calls Try.prog 24 #[.int .i64 a0, .int .i64 a1, .int .i64 a2] w fun e w' => e = .returned (.tuple #[.int .u32 r1, .int .i64 r2]) ∧ Drawn0 w w' := by
  have H : (if ((a0) % 256) = a0 then (if (wrap64 (IntKind.u16.wrap (a1))) = a1 then (if ((a2) % 256) = a2 then (some (Go.bits .or .u32 (Go.bits .or .u32 ((((a0) % 4294967296) * 16777216) % 4294967296) ((((a1) % 4294967296) * 256) % 4294967296)) ((a2) % 4294967296), 0)) else (some (0, 1))) else (some (0, 1))) else (some (0, 1))) = some (r1, r2) := h
  clear h
  by_cases c4 : ((a0) % 256) = a0
  · rw [if_pos c4] at H
    have c4b0 : (((a0) % 256) == a0) = true := beq_iff_eq.mpr c4
    have c4b1 : (((a0) % 256) != a0) = false := bne_eq_false_iff_eq.mpr c4
    clear c4
    by_cases c5 : (wrap64 (IntKind.u16.wrap (a1))) = a1
    · rw [if_pos c5] at H
      have c5b0 : ((wrap64 (IntKind.u16.wrap (a1))) == a1) = true := beq_iff_eq.mpr c5
      have c5b1 : ((wrap64 (IntKind.u16.wrap (a1))) != a1) = false := bne_eq_false_iff_eq.mpr c5
      clear c5
      by_cases c6 : ((a2) % 256) = a2
      · rw [if_pos c6] at H
        have c6b0 : (((a2) % 256) == a2) = true := beq_iff_eq.mpr c6
        have c6b1 : (((a2) % 256) != a2) = false := bne_eq_false_iff_eq.mpr c6
        clear c6
        simp only [Option.some.injEq, Prod.mk.injEq] at H
        obtain ⟨rfl, rfl⟩ := H
        go_enter Try.func24, Try.ntmps24
        go_wp2
        go_ret2
        exact ⟨by first | rfl | (simp; done) | (simp [*]; done), by repeat (first | exact Drawn0.refl _ | apply Drawn0.step)⟩
      · rw [if_neg c6] at H
        have c6b0 : (((a2) % 256) == a2) = false := beq_eq_false_iff_ne.mpr c6
        have c6b1 : (((a2) % 256) != a2) = true := bne_iff_ne.mpr c6
        simp only [Option.some.injEq, Prod.mk.injEq] at H
        obtain ⟨rfl, rfl⟩ := H
        go_enter Try.func24, Try.ntmps24
        go_wp2
        go_ret2
        exact ⟨by first | rfl | (simp; done) | (simp [*]; done), by repeat (first | exact Drawn0.refl _ | apply Drawn0.step)⟩
    · rw [if_neg c5] at H
      have c5b0 : ((wrap64 (IntKind.u16.wrap (a1))) == a1) = false := beq_eq_false_iff_ne.mpr c5
      have c5b1 : ((wrap64 (IntKind.u16.wrap (a1))) != a1) = true := bne_iff_ne.mpr c5
      simp only [Option.some.injEq, Prod.mk.injEq] at H
      obtain ⟨rfl, rfl⟩ := H
      go_enter Try.func24, Try.ntmps24
      go_wp2
      go_ret2
      exact ⟨by first | rfl | (simp; done) | (simp [*]; done), by repeat (first | exact Drawn0.refl _ | apply Drawn0.step)⟩
  · rw [if_neg c4] at H
    have c4b0 : (((a0) % 256) == a0) = false := beq_eq_false_iff_ne.mpr c4
    have c4b1 : (((a0) % 256) != a0) = true := bne_iff_ne.mpr c4
    simp only [Option.some.injEq, Prod.mk.injEq] at H
    obtain ⟨rfl, rfl⟩ := H
    go_enter Try.func24, Try.ntmps24
    go_wp2
    go_ret2
    exact ⟨by first | rfl | (simp; done) | (simp [*]; done), by repeat (first | exact Drawn0.refl _ | apply Drawn0.step)⟩

/-! ### word_Unpack: function 26 -/
def word_Unpack.f (a0 : Int) : Option (Int × Int × Int) := some (wrap64 (a0 / 16777216), wrap64 (IntKind.u16.wrap (a0 / 256)), (a0) % 256)
set_option maxHeartbeats 8000000 in
set_option maxRecDepth 100000 in
theorem word_Unpack.calls (a0 : Int) (r1 : Int) (r2 : Int) (r3 : Int) (w : World) (h : word_Unpack.f a0 = some (r1, r2, r3)) :
    Calls Try.prog 26 #[.int .u32 a0] w fun e w' => e = .returned (.tuple #[.int .i64 r1, .int .i64 r2, .int .i64 r3]) ∧ Drawn0 w w' := by
  have H : (some (wrap64 (a0 / 16777216), wrap64 (IntKind.u16.wrap (a0 / 256)), (a0) % 256)) = some (r1, r2, r3) := h
  clear h
  simp only [Option.some.injEq, Prod.mk.injEq] at H
  obtain ⟨rfl, rfl, rfl⟩ := H
  go_enter Try.func26, Try.ntmps26
  go_wp2
  go_ret3
  exact ⟨by first | rfl | (simp; done) | (simp [*]; done), by repeat (first | exact Drawn0.refl _ | apply Drawn0.step)⟩

/-! ### organonlaw01_WordUnpacks: function 8 -/
def organonlaw01_WordUnpacks.f (a0 : Int) : Option (Bool) := (word_Unpack.f a0).bind fun bt101 => ((word_Pack.f bt101.1 bt101.2.1 bt101.2.2).bind fun bt104 => (if bt104.2 = 0 then (if bt104.1 = a0 then (if bt101.1 ≥ 0 then (if bt101.1 ≤ 255 then (if bt101.2.2 ≥ 0 then (some (decide (bt101.2.2 ≤ 255))) else (some false)) else (some false)) else (some false)) else (some false)) else (some false)))
set_option maxHeartbeats 8000000 in
set_option maxRecDepth 100000 in
theorem organonlaw01_WordUnpacks.calls (a0 : Int) (r : Bool) (w : World) (h : organonlaw01_WordUnpacks.f a0 = some r) :
    Calls Try.prog 8 #[.int .u32 a0] w fun e w' => e = .returned (.bool r) ∧ Drawn0 w w' := by
  have H : ((word_Unpack.f a0).bind fun bt101 => ((word_Pack.f bt101.1 bt101.2.1 bt101.2.2).bind fun bt104 => (if bt104.2 = 0 then (if bt104.1 = a0 then (if bt101.1 ≥ 0 then (if bt101.1 ≤ 255 then (if bt101.2.2 ≥ 0 then (some (decide (bt101.2.2 ≤ 255))) else (some false)) else (some false)) else (some false)) else (some false)) else (some false)))) = some r := h
  clear h
  replace H := Option.bind_eq_some_iff.mp H
  obtain ⟨⟨t101, t102, t103⟩, A20, H⟩ := H
  replace H : ((word_Pack.f t101 t102 t103).bind fun bt104 => (if bt104.2 = 0 then (if bt104.1 = a0 then (if t101 ≥ 0 then (if t101 ≤ 255 then (if t103 ≥ 0 then (some (decide (t103 ≤ 255))) else (some false)) else (some false)) else (some false)) else (some false)) else (some false))) = some r := H
  have A2 := Aside0.mk A20
  clear A20
  replace H := Option.bind_eq_some_iff.mp H
  obtain ⟨⟨t104, t105⟩, A30, H⟩ := H
  replace H : (if t105 = 0 then (if t104 = a0 then (if t101 ≥ 0 then (if t101 ≤ 255 then (if t103 ≥ 0 then (some (decide (t103 ≤ 255))) else (some false)) else (some false)) else (some false)) else (some false)) else (some false)) = some r := H
  have A3 := Aside0.mk A30
  clear A30
  by_cases c4 : t105 = 0
  · rw [if_pos c4] at H
    have c4b0 : (t105 == 0) = true := beq_iff_eq.mpr c4
    have c4b1 : (t105 != 0) = false := bne_eq_false_iff_eq.mpr c4
    clear c4
    by_cases c5 : t104 = a0
    · rw [if_pos c5] at H
      have c5b0 : (t104 == a0) = true := beq_iff_eq.mpr c5
      have c5b1 : (t104 != a0) = false := bne_eq_false_iff_eq.mpr c5
      clear c5
      by_cases c6 : t101 ≥ 0
      · rw [if_pos c6] at H
        have c6b0 : decide (0 ≤ t101) = true := decide_eq_true c6
        clear c6
        by_cases c7 : t101 ≤ 255
        · rw [if_pos c7] at H
          have c7b0 : decide (t101 ≤ 255) = true := decide_eq_true c7
          clear c7
          by_cases c8 : t103 ≥ 0
          · rw [if_pos c8] at H
            have c8b0 : decide (0 ≤ t103) = true := decide_eq_true c8
            clear c8
            obtain rfl := Option.some.inj H
            go_enter Try.func8, Try.ntmps8
            go_wp2_with (first | ((with_reducible refine gate_callee (f := 26) rfl ?_); refine goesL_ (some 10) rfl rfl Try.func26 (by kernel_rfl) rfl #[.int .u32 a0] rfl (by (try simp only [List.map_toArray, List.map_cons, List.map_nil]); first | done | rfl | (simp only [List.length_drop, List.length_take]; rfl)) ?_; (with_reducible refine (word_Unpack.calls a0 t101 t102 t103 _ A2.out).mono ?_); rintro e w' ⟨rfl, ⟨nd, rfl⟩⟩; refine ⟨_, rfl, ?_⟩) | ((with_reducible refine gate_callee (f := 24) rfl ?_); refine goesL_ (some 18) rfl rfl Try.func24 (by kernel_rfl) rfl #[.int .i64 t101, .int .i64 t102, .int .i64 t103] rfl (by (try simp only [List.map_toArray, List.map_cons, List.map_nil]); first | done | rfl | (simp only [List.length_drop, List.length_take]; rfl)) ?_; (with_reducible refine (word_Pack.calls t101 t102 t103 t104 t105 _ A3.out).mono ?_); rintro e w' ⟨rfl, ⟨nd, rfl⟩⟩; refine ⟨_, rfl, ?_⟩))
            go_ret
            exact ⟨by first | rfl | (simp; done) | (simp [*]; done), by repeat (first | exact Drawn0.refl _ | apply Drawn0.step)⟩
          · rw [if_neg c8] at H
            have c8b0 : decide (0 ≤ t103) = false := decide_eq_false c8
            clear c8
            obtain rfl := Option.some.inj H
            go_enter Try.func8, Try.ntmps8
            go_wp2_with (first | ((with_reducible refine gate_callee (f := 26) rfl ?_); refine goesL_ (some 10) rfl rfl Try.func26 (by kernel_rfl) rfl #[.int .u32 a0] rfl (by (try simp only [List.map_toArray, List.map_cons, List.map_nil]); first | done | rfl | (simp only [List.length_drop, List.length_take]; rfl)) ?_; (with_reducible refine (word_Unpack.calls a0 t101 t102 t103 _ A2.out).mono ?_); rintro e w' ⟨rfl, ⟨nd, rfl⟩⟩; refine ⟨_, rfl, ?_⟩) | ((with_reducible refine gate_callee (f := 24) rfl ?_); refine goesL_ (some 18) rfl rfl Try.func24 (by kernel_rfl) rfl #[.int .i64 t101, .int .i64 t102, .int .i64 t103] rfl (by (try simp only [List.map_toArray, List.map_cons, List.map_nil]); first | done | rfl | (simp only [List.length_drop, List.length_take]; rfl)) ?_; (with_reducible refine (word_Pack.calls t101 t102 t103 t104 t105 _ A3.out).mono ?_); rintro e w' ⟨rfl, ⟨nd, rfl⟩⟩; refine ⟨_, rfl, ?_⟩))
            go_ret
            exact ⟨by first | rfl | (simp; done) | (simp [*]; done), by repeat (first | exact Drawn0.refl _ | apply Drawn0.step)⟩
        · rw [if_neg c7] at H
          have c7b0 : decide (t101 ≤ 255) = false := decide_eq_false c7
          clear c7
          obtain rfl := Option.some.inj H
          go_enter Try.func8, Try.ntmps8
          go_wp2_with (first | ((with_reducible refine gate_callee (f := 26) rfl ?_); refine goesL_ (some 10) rfl rfl Try.func26 (by kernel_rfl) rfl #[.int .u32 a0] rfl (by (try simp only [List.map_toArray, List.map_cons, List.map_nil]); first | done | rfl | (simp only [List.length_drop, List.length_take]; rfl)) ?_; (with_reducible refine (word_Unpack.calls a0 t101 t102 t103 _ A2.out).mono ?_); rintro e w' ⟨rfl, ⟨nd, rfl⟩⟩; refine ⟨_, rfl, ?_⟩) | ((with_reducible refine gate_callee (f := 24) rfl ?_); refine goesL_ (some 18) rfl rfl Try.func24 (by kernel_rfl) rfl #[.int .i64 t101, .int .i64 t102, .int .i64 t103] rfl (by (try simp only [List.map_toArray, List.map_cons, List.map_nil]); first | done | rfl | (simp only [List.length_drop, List.length_take]; rfl)) ?_; (with_reducible refine (word_Pack.calls t101 t102 t103 t104 t105 _ A3.out).mono ?_); rintro e w' ⟨rfl, ⟨nd, rfl⟩⟩; refine ⟨_, rfl, ?_⟩))
          go_ret
          exact ⟨by first | rfl | (simp; done) | (simp [*]; done), by repeat (first | exact Drawn0.refl _ | apply Drawn0.step)⟩
      · rw [if_neg c6] at H
        have c6b0 : decide (0 ≤ t101) = false := decide_eq_false c6
        clear c6
        obtain rfl := Option.some.inj H
        go_enter Try.func8, Try.ntmps8
        go_wp2_with (first | ((with_reducible refine gate_callee (f := 26) rfl ?_); refine goesL_ (some 10) rfl rfl Try.func26 (by kernel_rfl) rfl #[.int .u32 a0] rfl (by (try simp only [List.map_toArray, List.map_cons, List.map_nil]); first | done | rfl | (simp only [List.length_drop, List.length_take]; rfl)) ?_; (with_reducible refine (word_Unpack.calls a0 t101 t102 t103 _ A2.out).mono ?_); rintro e w' ⟨rfl, ⟨nd, rfl⟩⟩; refine ⟨_, rfl, ?_⟩) | ((with_reducible refine gate_callee (f := 24) rfl ?_); refine goesL_ (some 18) rfl rfl Try.func24 (by kernel_rfl) rfl #[.int .i64 t101, .int .i64 t102, .int .i64 t103] rfl (by (try simp only [List.map_toArray, List.map_cons, List.map_nil]); first | done | rfl | (simp only [List.length_drop, List.length_take]; rfl)) ?_; (with_reducible refine (word_Pack.calls t101 t102 t103 t104 t105 _ A3.out).mono ?_); rintro e w' ⟨rfl, ⟨nd, rfl⟩⟩; refine ⟨_, rfl, ?_⟩))
        go_ret
        exact ⟨by first | rfl | (simp; done) | (simp [*]; done), by repeat (first | exact Drawn0.refl _ | apply Drawn0.step)⟩
    · rw [if_neg c5] at H
      have c5b0 : (t104 == a0) = false := beq_eq_false_iff_ne.mpr c5
      have c5b1 : (t104 != a0) = true := bne_iff_ne.mpr c5
      obtain rfl := Option.some.inj H
      go_enter Try.func8, Try.ntmps8
      go_wp2_with (first | ((with_reducible refine gate_callee (f := 26) rfl ?_); refine goesL_ (some 10) rfl rfl Try.func26 (by kernel_rfl) rfl #[.int .u32 a0] rfl (by (try simp only [List.map_toArray, List.map_cons, List.map_nil]); first | done | rfl | (simp only [List.length_drop, List.length_take]; rfl)) ?_; (with_reducible refine (word_Unpack.calls a0 t101 t102 t103 _ A2.out).mono ?_); rintro e w' ⟨rfl, ⟨nd, rfl⟩⟩; refine ⟨_, rfl, ?_⟩) | ((with_reducible refine gate_callee (f := 24) rfl ?_); refine goesL_ (some 18) rfl rfl Try.func24 (by kernel_rfl) rfl #[.int .i64 t101, .int .i64 t102, .int .i64 t103] rfl (by (try simp only [List.map_toArray, List.map_cons, List.map_nil]); first | done | rfl | (simp only [List.length_drop, List.length_take]; rfl)) ?_; (with_reducible refine (word_Pack.calls t101 t102 t103 t104 t105 _ A3.out).mono ?_); rintro e w' ⟨rfl, ⟨nd, rfl⟩⟩; refine ⟨_, rfl, ?_⟩))
      go_ret
      exact ⟨by first | rfl | (simp; done) | (simp [*]; done), by repeat (first | exact Drawn0.refl _ | apply Drawn0.step)⟩
  · rw [if_neg c4] at H
    have c4b0 : (t105 == 0) = false := beq_eq_false_iff_ne.mpr c4
    have c4b1 : (t105 != 0) = true := bne_iff_ne.mpr c4
    obtain rfl := Option.some.inj H
    go_enter Try.func8, Try.ntmps8
    go_wp2_with (first | ((with_reducible refine gate_callee (f := 26) rfl ?_); refine goesL_ (some 10) rfl rfl Try.func26 (by kernel_rfl) rfl #[.int .u32 a0] rfl (by (try simp only [List.map_toArray, List.map_cons, List.map_nil]); first | done | rfl | (simp only [List.length_drop, List.length_take]; rfl)) ?_; (with_reducible refine (word_Unpack.calls a0 t101 t102 t103 _ A2.out).mono ?_); rintro e w' ⟨rfl, ⟨nd, rfl⟩⟩; refine ⟨_, rfl, ?_⟩) | ((with_reducible refine gate_callee (f := 24) rfl ?_); refine goesL_ (some 18) rfl rfl Try.func24 (by kernel_rfl) rfl #[.int .i64 t101, .int .i64 t102, .int .i64 t103] rfl (by (try simp only [List.map_toArray, List.map_cons, List.map_nil]); first | done | rfl | (simp only [List.length_drop, List.length_take]; rfl)) ?_; (with_reducible refine (word_Pack.calls t101 t102 t103 t104 t105 _ A3.out).mono ?_); rintro e w' ⟨rfl, ⟨nd, rfl⟩⟩; refine ⟨_, rfl, ?_⟩))
    go_ret
    exact ⟨by first | rfl | (simp; done) | (simp [*]; done), by repeat (first | exact Drawn0.refl _ | apply Drawn0.step)⟩

/-- THE ONE PURE STATEMENT of organonlaw01_WordUnpacks: yours. -/
def organonlaw01_WordUnpacks.Pure : Prop := ∀ (a0 : Int), (Lit.int .u32 a0).wf = true → organonlaw01_WordUnpacks.f a0 = some true
theorem organonlaw01_WordUnpacks.walk (P : organonlaw01_WordUnpacks.Pure) (a0 : Int) (w : World) (w0 : (Lit.int .u32 a0).wf = true) :
    Calls Try.prog 8 #[.int .u32 a0] w fun e w' => e = .returned (.bool true) ∧ Below w.heap.size w w' := by
  have h := P a0 w0
  refine (organonlaw01_WordUnpacks.calls a0 true w h).mono ?_
  rintro e w' ⟨rfl, hd⟩
  exact ⟨rfl, hd.below⟩

end Go.Proofs.Ytcnhcfmmlonjjaa.PWordUnpacks
