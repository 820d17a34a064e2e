/- The walks of the functions that ParseTokens reaches, after the print; mended by hand where the print's own text did not go through. -/
import Derived.Test.YtipggffdknonmaaPParseTokensx0
import Derived.Test.YtipggffdknonmaaTkSign
namespace Go.Proofs.Ytipggffdknonmaa.PParseTokens
open Go.RowKit Go.Proofs.YtipggffdknonmaaW.PrintWords Go.Proofs.YtipggffdknonmaaW.PrintLast Go.Proofs.YtipggffdknonmaaW.PrintMore
attribute [local go_sem] max2_int min2_int max_two min_two max_three min_three max_four min_four   -- for this text's walks alone
set_option linter.unusedVariables false
set_option linter.unusedSimpArgs false

/-! ### parse_symbol: function 15 -/
def parse_symbol.f (a0 : Int) : Option (Int × Int) := if a0 = 120 then (some (1, 63)) else (if a0 = 102 then (some (2, 99)) else (if a0 = 80 then (some (3, 99)) else (some (0, 0))))
set_option maxHeartbeats 8000000 in
set_option maxRecDepth 100000 in
theorem parse_symbol.calls (a0 : Int) (r1 : Int) (r2 : Int) (w : World) (h : parse_symbol.f a0 = some (r1, r2)) :
    Calls Try.prog 15 #[.int .i32 a0] w fun e w' => e = .returned (.tuple #[.int .i64 r1, .int .i64 r2]) ∧ Drawn0 w w' := by
  have H : (if a0 = 120 then (some (1, 63)) else (if a0 = 102 then (some (2, 99)) else (if a0 = 80 then (some (3, 99)) else (some (0, 0))))) = some (r1, r2) := h
  clear h
  by_cases c2 : a0 = 120
  · rw [if_pos c2] at H
    have c2b0 : (a0 == 120) = true := beq_iff_eq.mpr c2
    have c2b1 : (a0 != 120) = false := bne_eq_false_iff_eq.mpr c2
    clear c2
    simp only [Option.some.injEq, Prod.mk.injEq] at H
    obtain ⟨rfl, rfl⟩ := H
    go_enter Try.func15, Try.ntmps15
    go_wp2
    go_ret2
    exact ⟨by first | rfl | (simp; done) | (simp [*]; done), by repeat (first | exact Drawn0.refl _ | apply Drawn0.step)⟩
  · rw [if_neg c2] at H
    have c2b0 : (a0 == 120) = false := beq_eq_false_iff_ne.mpr c2
    have c2b1 : (a0 != 120) = true := bne_iff_ne.mpr c2
    by_cases c3 : a0 = 102
    · rw [if_pos c3] at H
      have c3b0 : (a0 == 102) = true := beq_iff_eq.mpr c3
      have c3b1 : (a0 != 102) = false := bne_eq_false_iff_eq.mpr c3
      clear c3
      simp only [Option.some.injEq, Prod.mk.injEq] at H
      obtain ⟨rfl, rfl⟩ := H
      go_enter Try.func15, Try.ntmps15
      go_wp2
      go_ret2
      exact ⟨by first | rfl | (simp; done) | (simp [*]; done), by repeat (first | exact Drawn0.refl _ | apply Drawn0.step)⟩
    · rw [if_neg c3] at H
      have c3b0 : (a0 == 102) = false := beq_eq_false_iff_ne.mpr c3
      have c3b1 : (a0 != 102) = true := bne_iff_ne.mpr c3
      by_cases c4 : a0 = 80
      · rw [if_pos c4] at H
        have c4b0 : (a0 == 80) = true := beq_iff_eq.mpr c4
        have c4b1 : (a0 != 80) = false := bne_eq_false_iff_eq.mpr c4
        clear c4
        simp only [Option.some.injEq, Prod.mk.injEq] at H
        obtain ⟨rfl, rfl⟩ := H
        go_enter Try.func15, Try.ntmps15
        go_wp2
        go_ret2
        exact ⟨by first | rfl | (simp; done) | (simp [*]; done), by repeat (first | exact Drawn0.refl _ | apply Drawn0.step)⟩
      · rw [if_neg c4] at H
        have c4b0 : (a0 == 80) = false := beq_eq_false_iff_ne.mpr c4
        have c4b1 : (a0 != 80) = true := bne_iff_ne.mpr c4
        simp only [Option.some.injEq, Prod.mk.injEq] at H
        obtain ⟨rfl, rfl⟩ := H
        go_enter Try.func15, Try.ntmps15
        go_wp2
        go_ret2
        exact ⟨by first | rfl | (simp; done) | (simp [*]; done), by repeat (first | exact Drawn0.refl _ | apply Drawn0.step)⟩

-- NOT PRINTED: function 70 (bytealg_IndexByteString)

-- NOT PRINTED: function 63 (stringslite_IndexByte)

-- NOT PRINTED: function 51 (strings_IndexByte)

/-! ### utf8_ValidRune: function 52 -/
def utf8_ValidRune.j0 : Nat → Int → Bool → Option (Bool)
  | 0, _, _ => none
  | k + 1, x0, x3 => if x3 = true then (some true) else (if 57343 < x0 then (if x0 ≤ 1114111 then (some true) else (some false)) else (some false))
def utf8_ValidRune.f (k : Nat) (a0 : Int) : Option (Bool) := if 0 ≤ a0 then (utf8_ValidRune.j0 k a0 (decide (a0 < 55296))) else (utf8_ValidRune.j0 k a0 false)
theorem utf8_ValidRune.mono_l : ∀ k, (∀ y0 y1, LeO (utf8_ValidRune.j0 k y0 y1) (utf8_ValidRune.j0 (k + 1) y0 y1))
  | 0 => fun _ _ r h => by simp [utf8_ValidRune.j0] at h
  | k + 1 => by
    have ih0 := utf8_ValidRune.mono_l k
    · intro y0 y1
      unfold utf8_ValidRune.j0
      repeat' first
      | (with_reducible exact ih0 _ _)
      | (with_reducible exact LeO.refl _)
      | (with_reducible exact LeO.none _)
      | (with_reducible refine LeO.ite ?_ ?_)
      | (with_reducible refine LeO.bind ?_ (fun _ => ?_))
      | exact ih0 _ _
      | exact LeO.none _
      | refine LeO.ite ?_ ?_
      | refine LeO.bind ?_ (fun _ => ?_)
theorem utf8_ValidRune.mono : ∀ a0 k, LeO (utf8_ValidRune.f k a0) (utf8_ValidRune.f (k + 1) a0) := by
  intro a0 k
  have ih0 := utf8_ValidRune.mono_l k
  unfold utf8_ValidRune.f
  repeat' first
      | (with_reducible exact ih0 _ _)
      | (with_reducible exact LeO.refl _)
      | (with_reducible exact LeO.none _)
      | (with_reducible refine LeO.ite ?_ ?_)
      | (with_reducible refine LeO.bind ?_ (fun _ => ?_))
      | exact ih0 _ _
      | exact LeO.none _
      | refine LeO.ite ?_ ?_
      | refine LeO.bind ?_ (fun _ => ?_)
set_option maxHeartbeats 8000000 in
set_option maxRecDepth 100000 in
theorem utf8_ValidRune.calls (k : Nat) (a0 : Int) (r : Bool) (w : World) (h : utf8_ValidRune.f k a0 = some r) :
    Calls Try.prog 52 #[.int .i32 a0] w fun e w' => e = .returned (.bool r) ∧ Drawn0 w w' := by
  have H : (if 0 ≤ a0 then (utf8_ValidRune.j0 k a0 (decide (a0 < 55296))) else (utf8_ValidRune.j0 k a0 false)) = some r := h
  clear h
  have HC2 := Aside0.mk H
  clear H
  go_enter Try.func52, Try.ntmps52
  go_upto_region 1 with (fail)
  go_cut [3] (fun v3 wc => ∃ (kq : Nat) (x3_1 : Bool), v3 = .bool x3_1 ∧ Aside0 (utf8_ValidRune.j0 kq a0 x3_1 = some r) ∧ Aside0 (kq ≤ k) ∧ Drawn0 w wc)
  case first =>
    have H := HC2.out
    clear HC2
    by_cases c3 : 0 ≤ a0
    · rw [if_pos c3] at H
      have c3b0 : decide (0 ≤ a0) = true := decide_eq_true c3
      clear c3
      (first | rw [c3b0] | (simp only [i64_w, i32_w]; rw [c3b0]) | skip)
      have H' := Aside0.mk H
      clear H
      go_wp2
      go_meet
      case rel => exact ⟨_, (decide (a0 < 55296)), (by first | rfl | (simp; done) | (simp [*]; done)), H', ⟨by first | omega | exact Nat.le_refl _⟩, by repeat (first | exact Drawn0.refl _ | apply Drawn0.step)⟩
    · rw [if_neg c3] at H
      have c3b0 : decide (0 ≤ a0) = false := decide_eq_false c3
      clear c3
      (first | rw [c3b0] | (simp only [i64_w, i32_w]; rw [c3b0]) | skip)
      have H' := Aside0.mk H
      clear H
      go_wp2
      go_meet
      case rel => exact ⟨_, (false), (by first | rfl | (simp; done) | (simp [*]; done)), H', ⟨by first | omega | exact Nat.le_refl _⟩, by repeat (first | exact Drawn0.refl _ | apply Drawn0.step)⟩
  case rest =>
    clear HC2
    try clear p2
    try clear c3
    try clear c3b0
    obtain ⟨kq, x3_1, rfl, HA, HJ1, ⟨mc1, rfl⟩⟩ := hcut
    cases kq with
    | zero => exact absurd HA.out (by simp [utf8_ValidRune.j0])
    | succ kj1 =>
      have H := HA.out
      clear HA
      simp only [utf8_ValidRune.j0] at H
      by_cases c4 : x3_1 = true
      · subst c4
        have H1 : (some true) = some r := by rw [if_pos rfl] at H; exact H
        clear H
        have H := H1
        clear H1
        obtain rfl := Option.some.inj H
        go_wp2
        go_ret
        exact ⟨by first | rfl | (simp; done) | (simp [*]; done), by repeat (first | exact Drawn0.refl _ | apply Drawn0.step)⟩
      · replace c4 := Bool.eq_false_iff.mpr c4
        subst c4
        have H1 : (if 57343 < a0 then (if a0 ≤ 1114111 then (some true) else (some false)) else (some false)) = some r := by rw [if_neg (show ¬ (false = true) by decide)] at H; exact H
        clear H
        have H := H1
        clear H1
        by_cases c5 : 57343 < a0
        · rw [if_pos c5] at H
          have c5b0 : decide (57343 < a0) = true := decide_eq_true c5
          clear c5
          by_cases c6 : a0 ≤ 1114111
          · rw [if_pos c6] at H
            have c6b0 : decide (a0 ≤ 1114111) = true := decide_eq_true c6
            clear c6
            obtain rfl := Option.some.inj H
            go_wp2
            go_ret
            exact ⟨by first | rfl | (simp; done) | (simp [*]; done), by repeat (first | exact Drawn0.refl _ | apply Drawn0.step)⟩
          · rw [if_neg c6] at H
            have c6b0 : decide (a0 ≤ 1114111) = false := decide_eq_false c6
            clear c6
            obtain rfl := Option.some.inj H
            go_wp2
            go_ret
            exact ⟨by first | rfl | (simp; done) | (simp [*]; done), by repeat (first | exact Drawn0.refl _ | apply Drawn0.step)⟩
        · rw [if_neg c5] at H
          have c5b0 : decide (57343 < a0) = false := decide_eq_false c5
          clear c5
          obtain rfl := Option.some.inj H
          go_wp2
          go_ret
          exact ⟨by first | rfl | (simp; done) | (simp [*]; done), by repeat (first | exact Drawn0.refl _ | apply Drawn0.step)⟩

/-! ### bytealg_Cutover: function 53 -/
def bytealg_Cutover.f (a0 : Int) : Option (Int) := some (wrap64 (Int.tdiv (wrap64 (a0 + 16)) 8))
set_option maxHeartbeats 8000000 in
set_option maxRecDepth 100000 in
theorem bytealg_Cutover.calls (a0 : Int) (r : Int) (w : World) (h : bytealg_Cutover.f a0 = some r) :
    Calls Try.prog 53 #[.int .i64 a0] w fun e w' => e = .returned (.int .i64 r) ∧ Drawn0 w w' := by
  have H : (some (wrap64 (Int.tdiv (wrap64 (a0 + 16)) 8))) = some r := h
  clear h
  obtain rfl := Option.some.inj H
  go_enter Try.func53, Try.ntmps53
  go_wp2
  go_ret
  exact ⟨by first | rfl | (simp; done) | (simp [*]; done), by repeat (first | exact Drawn0.refl _ | apply Drawn0.step)⟩

-- NOT PRINTED: function 54 (bytealg_IndexString)

-- NOT PRINTED: function 30 (strings_IndexRune)

-- NOT PRINTED: function 16 (strings_ContainsRune)

-- NOT PRINTED: function 17 (parse_number)

-- NOT PRINTED: function 7 (parse_Tokens)

/-! ### organonref03_isSign: function 18 -/
def organonref03_isSign.l0 : Nat → Int → List Int → Int → Int → Option (Bool)
  | 0, _, _, _, _ => none
  | k + 1, x0, x6, x7, x8 => if x8 < x7 then (if 0 ≤ x8 then (if x8 < (x6.length : Int) then (if (rd x6 x8) = x0 then (some true) else (organonref03_isSign.l0 k x0 x6 x7 (wrap64 (x8 + 1)))) else (none)) else (none)) else (some false)
def organonref03_isSign.f (k : Nat) (a0 : Int) : Option (Bool) := (some (([40, 41, 44, 61, 33, 62, 38, 124, 64, 63] : List Int) : List Int)).bind fun y101 => (organonref03_isSign.l0 k a0 y101 (y101.length : Int) 0)
theorem organonref03_isSign.mono_l : ∀ k, (∀ y0 y1 y2 y3, LeO (organonref03_isSign.l0 k y0 y1 y2 y3) (organonref03_isSign.l0 (k + 1) y0 y1 y2 y3))
  | 0 => fun _ _ _ _ r h => by simp [organonref03_isSign.l0] at h
  | k + 1 => by
    have ih0 := organonref03_isSign.mono_l k
    · intro y0 y1 y2 y3
      unfold organonref03_isSign.l0
      repeat' first
      | (with_reducible exact ih0 _ _ _ _)
      | (with_reducible exact LeO.refl _)
      | (with_reducible exact LeO.none _)
      | (with_reducible refine LeO.ite ?_ ?_)
      | (with_reducible refine LeO.bind ?_ (fun _ => ?_))
      | exact ih0 _ _ _ _
      | exact LeO.none _
      | refine LeO.ite ?_ ?_
      | refine LeO.bind ?_ (fun _ => ?_)
theorem organonref03_isSign.mono : ∀ a0 k, LeO (organonref03_isSign.f k a0) (organonref03_isSign.f (k + 1) a0) := by
  intro a0 k
  have ih0 := organonref03_isSign.mono_l k
  unfold organonref03_isSign.f
  repeat' first
      | (with_reducible exact ih0 _ _ _ _)
      | (with_reducible exact LeO.refl _)
      | (with_reducible exact LeO.none _)
      | (with_reducible refine LeO.ite ?_ ?_)
      | (with_reducible refine LeO.bind ?_ (fun _ => ?_))
      | exact ih0 _ _ _ _
      | exact LeO.none _
      | refine LeO.ite ?_ ?_
      | refine LeO.bind ?_ (fun _ => ?_)
theorem organonref03_isSign.tells_l0 (a0 : Int) (d : Nat) : ∀ (j K : Nat), j + d = 10 → d < K → organonref03_isSign.l0 K a0 ([40, 41, 44, 61, 33, 62, 38, 124, 64, 63] : List Int) 10 (j : Int) = some (decide (a0 ∈ Tk.fromS j)) := by
  induction d with
  | zero =>
    intro j K hj hK
    obtain ⟨K, rfl⟩ : ∃ m, K = m + 1 := ⟨K - 1, by omega⟩
    obtain rfl : j = 10 := by omega
    simp only [organonref03_isSign.l0]
    rw [if_neg (by decide)]
    simp [Tk.fromS]
  | succ d ih =>
    intro j K hj hK
    obtain ⟨K, rfl⟩ : ∃ m, K = m + 1 := ⟨K - 1, by omega⟩
    have nxt := ih (j + 1) K (by omega) (by omega)
    simp only [organonref03_isSign.l0]
    rcases (show j = 0 ∨ j = 1 ∨ j = 2 ∨ j = 3 ∨ j = 4 ∨ j = 5 ∨ j = 6 ∨ j = 7 ∨ j = 8 ∨ j = 9 by omega) with rfl | rfl | rfl | rfl | rfl | rfl | rfl | rfl | rfl | rfl
    · rw [if_pos (by decide), if_pos (by decide), if_pos (by decide), show rd ([40, 41, 44, 61, 33, 62, 38, 124, 64, 63] : List Int) ((0 : Nat) : Int) = 40 from rfl]
      by_cases hx : (40 : Int) = a0
      · rw [if_pos hx, ← hx]; rfl
      · rw [if_neg hx, show wrap64 (((0 : Nat) : Int) + 1) = ((0 + 1 : Nat) : Int) from by unfold wrap64; omega, nxt]
        congr 1
        rw [decide_eq_decide]
        simp [Tk.fromS, Ne.symm hx]
    · rw [if_pos (by decide), if_pos (by decide), if_pos (by decide), show rd ([40, 41, 44, 61, 33, 62, 38, 124, 64, 63] : List Int) ((1 : Nat) : Int) = 41 from rfl]
      by_cases hx : (41 : Int) = a0
      · rw [if_pos hx, ← hx]; rfl
      · rw [if_neg hx, show wrap64 (((1 : Nat) : Int) + 1) = ((1 + 1 : Nat) : Int) from by unfold wrap64; omega, nxt]
        congr 1
        rw [decide_eq_decide]
        simp [Tk.fromS, Ne.symm hx]
    · rw [if_pos (by decide), if_pos (by decide), if_pos (by decide), show rd ([40, 41, 44, 61, 33, 62, 38, 124, 64, 63] : List Int) ((2 : Nat) : Int) = 44 from rfl]
      by_cases hx : (44 : Int) = a0
      · rw [if_pos hx, ← hx]; rfl
      · rw [if_neg hx, show wrap64 (((2 : Nat) : Int) + 1) = ((2 + 1 : Nat) : Int) from by unfold wrap64; omega, nxt]
        congr 1
        rw [decide_eq_decide]
        simp [Tk.fromS, Ne.symm hx]
    · rw [if_pos (by decide), if_pos (by decide), if_pos (by decide), show rd ([40, 41, 44, 61, 33, 62, 38, 124, 64, 63] : List Int) ((3 : Nat) : Int) = 61 from rfl]
      by_cases hx : (61 : Int) = a0
      · rw [if_pos hx, ← hx]; rfl
      · rw [if_neg hx, show wrap64 (((3 : Nat) : Int) + 1) = ((3 + 1 : Nat) : Int) from by unfold wrap64; omega, nxt]
        congr 1
        rw [decide_eq_decide]
        simp [Tk.fromS, Ne.symm hx]
    · rw [if_pos (by decide), if_pos (by decide), if_pos (by decide), show rd ([40, 41, 44, 61, 33, 62, 38, 124, 64, 63] : List Int) ((4 : Nat) : Int) = 33 from rfl]
      by_cases hx : (33 : Int) = a0
      · rw [if_pos hx, ← hx]; rfl
      · rw [if_neg hx, show wrap64 (((4 : Nat) : Int) + 1) = ((4 + 1 : Nat) : Int) from by unfold wrap64; omega, nxt]
        congr 1
        rw [decide_eq_decide]
        simp [Tk.fromS, Ne.symm hx]
    · rw [if_pos (by decide), if_pos (by decide), if_pos (by decide), show rd ([40, 41, 44, 61, 33, 62, 38, 124, 64, 63] : List Int) ((5 : Nat) : Int) = 62 from rfl]
      by_cases hx : (62 : Int) = a0
      · rw [if_pos hx, ← hx]; rfl
      · rw [if_neg hx, show wrap64 (((5 : Nat) : Int) + 1) = ((5 + 1 : Nat) : Int) from by unfold wrap64; omega, nxt]
        congr 1
        rw [decide_eq_decide]
        simp [Tk.fromS, Ne.symm hx]
    · rw [if_pos (by decide), if_pos (by decide), if_pos (by decide), show rd ([40, 41, 44, 61, 33, 62, 38, 124, 64, 63] : List Int) ((6 : Nat) : Int) = 38 from rfl]
      by_cases hx : (38 : Int) = a0
      · rw [if_pos hx, ← hx]; rfl
      · rw [if_neg hx, show wrap64 (((6 : Nat) : Int) + 1) = ((6 + 1 : Nat) : Int) from by unfold wrap64; omega, nxt]
        congr 1
        rw [decide_eq_decide]
        simp [Tk.fromS, Ne.symm hx]
    · rw [if_pos (by decide), if_pos (by decide), if_pos (by decide), show rd ([40, 41, 44, 61, 33, 62, 38, 124, 64, 63] : List Int) ((7 : Nat) : Int) = 124 from rfl]
      by_cases hx : (124 : Int) = a0
      · rw [if_pos hx, ← hx]; rfl
      · rw [if_neg hx, show wrap64 (((7 : Nat) : Int) + 1) = ((7 + 1 : Nat) : Int) from by unfold wrap64; omega, nxt]
        congr 1
        rw [decide_eq_decide]
        simp [Tk.fromS, Ne.symm hx]
    · rw [if_pos (by decide), if_pos (by decide), if_pos (by decide), show rd ([40, 41, 44, 61, 33, 62, 38, 124, 64, 63] : List Int) ((8 : Nat) : Int) = 64 from rfl]
      by_cases hx : (64 : Int) = a0
      · rw [if_pos hx, ← hx]; rfl
      · rw [if_neg hx, show wrap64 (((8 : Nat) : Int) + 1) = ((8 + 1 : Nat) : Int) from by unfold wrap64; omega, nxt]
        congr 1
        rw [decide_eq_decide]
        simp [Tk.fromS, Ne.symm hx]
    · rw [if_pos (by decide), if_pos (by decide), if_pos (by decide), show rd ([40, 41, 44, 61, 33, 62, 38, 124, 64, 63] : List Int) ((9 : Nat) : Int) = 63 from rfl]
      by_cases hx : (63 : Int) = a0
      · rw [if_pos hx, ← hx]; rfl
      · rw [if_neg hx, show wrap64 (((9 : Nat) : Int) + 1) = ((9 + 1 : Nat) : Int) from by unfold wrap64; omega, nxt]
        congr 1
        rw [decide_eq_decide]
        simp [Tk.fromS, Ne.symm hx]
theorem organonref03_isSign.tells (a0 : Int) (k : Nat) (hk : 20 ≤ k) : organonref03_isSign.f k a0 = some (Tk.isSign a0) := by
  unfold organonref03_isSign.f
  rw [Option.bind_some, Tk.isSign_from]
  exact organonref03_isSign.tells_l0 a0 10 0 k rfl (by omega)
theorem organonref03_isSign.calls (k : Nat) (a0 : Int) (r : Bool) (w : World) (h : organonref03_isSign.f k a0 = some r) :
    Calls Try.prog 18 #[.int .u8 a0] w fun e w' => e = .returned (.bool r) ∧ Below w.heap.size w w' := by
  have h1 := at_rounds (organonref03_isSign.mono a0) (show k ≤ k + 20 by omega) h
  rw [organonref03_isSign.tells a0 (k + 20) (by omega)] at h1
  obtain rfl := Option.some.inj h1
  exact Tk.sign_any a0 w

/-! ### organonref03_most: function 19 -/
def organonref03_most.f (a0 : Int) : Option (Int) := if a0 = 120 then (some 63) else (if a0 = 102 then (some 99) else (if a0 = 80 then (some 99) else (some (-1))))
set_option maxHeartbeats 8000000 in
set_option maxRecDepth 100000 in
theorem organonref03_most.calls (a0 : Int) (r : Int) (w : World) (h : organonref03_most.f a0 = some r) :
    Calls Try.prog 19 #[.int .u8 a0] w fun e w' => e = .returned (.int .i64 r) ∧ Drawn0 w w' := by
  have H : (if a0 = 120 then (some 63) else (if a0 = 102 then (some 99) else (if a0 = 80 then (some 99) else (some (-1))))) = some r := h
  clear h
  by_cases c2 : a0 = 120
  · rw [if_pos c2] at H
    have c2b0 : (a0 == 120) = true := beq_iff_eq.mpr c2
    have c2b1 : (a0 != 120) = false := bne_eq_false_iff_eq.mpr c2
    clear c2
    obtain rfl := Option.some.inj H
    go_enter Try.func19, Try.ntmps19
    go_wp2
    go_ret
    exact ⟨by first | rfl | (simp; done) | (simp [*]; done), by repeat (first | exact Drawn0.refl _ | apply Drawn0.step)⟩
  · rw [if_neg c2] at H
    have c2b0 : (a0 == 120) = false := beq_eq_false_iff_ne.mpr c2
    have c2b1 : (a0 != 120) = true := bne_iff_ne.mpr c2
    by_cases c3 : a0 = 102
    · rw [if_pos c3] at H
      have c3b0 : (a0 == 102) = true := beq_iff_eq.mpr c3
      have c3b1 : (a0 != 102) = false := bne_eq_false_iff_eq.mpr c3
      clear c3
      obtain rfl := Option.some.inj H
      go_enter Try.func19, Try.ntmps19
      go_wp2
      go_ret
      exact ⟨by first | rfl | (simp; done) | (simp [*]; done), by repeat (first | exact Drawn0.refl _ | apply Drawn0.step)⟩
    · rw [if_neg c3] at H
      have c3b0 : (a0 == 102) = false := beq_eq_false_iff_ne.mpr c3
      have c3b1 : (a0 != 102) = true := bne_iff_ne.mpr c3
      by_cases c4 : a0 = 80
      · rw [if_pos c4] at H
        have c4b0 : (a0 == 80) = true := beq_iff_eq.mpr c4
        have c4b1 : (a0 != 80) = false := bne_eq_false_iff_eq.mpr c4
        clear c4
        obtain rfl := Option.some.inj H
        go_enter Try.func19, Try.ntmps19
        go_wp2
        go_ret
        exact ⟨by first | rfl | (simp; done) | (simp [*]; done), by repeat (first | exact Drawn0.refl _ | apply Drawn0.step)⟩
      · rw [if_neg c4] at H
        have c4b0 : (a0 == 80) = false := beq_eq_false_iff_ne.mpr c4
        have c4b1 : (a0 != 80) = true := bne_iff_ne.mpr c4
        obtain rfl := Option.some.inj H
        go_enter Try.func19, Try.ntmps19
        go_wp2
        go_ret
        exact ⟨by first | rfl | (simp; done) | (simp [*]; done), by repeat (first | exact Drawn0.refl _ | apply Drawn0.step)⟩

/-! ### organonref03_isDigit: function 31 -/
def organonref03_isDigit.f (a0 : Int) : Option (Bool) := if a0 ≥ 48 then (some (decide (a0 ≤ 57))) else (some false)
set_option maxHeartbeats 8000000 in
set_option maxRecDepth 100000 in
theorem organonref03_isDigit.calls (a0 : Int) (r : Bool) (w : World) (h : organonref03_isDigit.f a0 = some r) :
    Calls Try.prog 31 #[.int .u8 a0] w fun e w' => e = .returned (.bool r) ∧ Drawn0 w w' := by
  have H : (if a0 ≥ 48 then (some (decide (a0 ≤ 57))) else (some false)) = some r := h
  clear h
  by_cases c2 : a0 ≥ 48
  · rw [if_pos c2] at H
    have c2b0 : decide (48 ≤ a0) = true := decide_eq_true c2
    clear c2
    obtain rfl := Option.some.inj H
    go_enter Try.func31, Try.ntmps31
    go_wp2
    go_ret
    exact ⟨by first | rfl | (simp; done) | (simp [*]; done), by repeat (first | exact Drawn0.refl _ | apply Drawn0.step)⟩
  · rw [if_neg c2] at H
    have c2b0 : decide (48 ≤ a0) = false := decide_eq_false c2
    clear c2
    obtain rfl := Option.some.inj H
    go_enter Try.func31, Try.ntmps31
    go_wp2
    go_ret
    exact ⟨by first | rfl | (simp; done) | (simp [*]; done), by repeat (first | exact Drawn0.refl _ | apply Drawn0.step)⟩

/-! ### organonref03_digits: function 20 -/
def organonref03_digits.l0 : Nat → ByteArray → Int → Int → Option (Int)
  | 0, _, _, _ => none
  | k + 1, x0, x1, x5 => if (wrap64 (x1 + x5)) < (x0.size : Int) then (if 0 ≤ (wrap64 (x1 + x5)) then ((organonref03_isDigit.f (bt x0 (wrap64 (x1 + x5)))).bind fun t105 => (if t105 = true then (organonref03_digits.l0 k x0 x1 (wrap64 (x5 + 1))) else (some x5))) else (none)) else (some x5)
def organonref03_digits.f (k : Nat) (a0 : ByteArray) (a1 : Int) : Option (Int) := organonref03_digits.l0 k a0 a1 0
theorem organonref03_digits.mono_l : ∀ k, (∀ y0 y1 y2, LeO (organonref03_digits.l0 k y0 y1 y2) (organonref03_digits.l0 (k + 1) y0 y1 y2))
  | 0 => fun _ _ _ r h => by simp [organonref03_digits.l0] at h
  | k + 1 => by
    have ih0 := organonref03_digits.mono_l k
    · intro y0 y1 y2
      unfold organonref03_digits.l0
      repeat' first
      | (with_reducible exact ih0 _ _ _)
      | (with_reducible exact LeO.refl _)
      | (with_reducible exact LeO.none _)
      | (with_reducible refine LeO.ite ?_ ?_)
      | (with_reducible refine LeO.bind ?_ (fun _ => ?_))
      | exact ih0 _ _ _
      | exact LeO.none _
      | refine LeO.ite ?_ ?_
      | refine LeO.bind ?_ (fun _ => ?_)
theorem organonref03_digits.mono : ∀ a0 a1 k, LeO (organonref03_digits.f k a0 a1) (organonref03_digits.f (k + 1) a0 a1) := by
  intro a0 a1 k
  have ih0 := organonref03_digits.mono_l k
  unfold organonref03_digits.f
  repeat' first
      | (with_reducible exact ih0 _ _ _)
      | (with_reducible exact LeO.refl _)
      | (with_reducible exact LeO.none _)
      | (with_reducible refine LeO.ite ?_ ?_)
      | (with_reducible refine LeO.bind ?_ (fun _ => ?_))
      | exact ih0 _ _ _
      | exact LeO.none _
      | refine LeO.ite ?_ ?_
      | refine LeO.bind ?_ (fun _ => ?_)
set_option maxHeartbeats 8000000 in
set_option maxRecDepth 100000 in
theorem organonref03_digits.calls (k : Nat) (a0 : ByteArray) (a1 : Int) (r : Int) (w : World) (h : organonref03_digits.f k a0 a1 = some r) :
    Calls Try.prog 20 #[.string a0, .int .i64 a1] w fun e w' => e = .returned (.int .i64 r) ∧ Drawn0 w w' := by
  have H : (organonref03_digits.l0 k a0 a1 0) = some r := h
  clear h
  have H' := Aside0.mk H
  clear H
  go_enter Try.func20, Try.ntmps20
  go_wp2
  go_loopg [5] k (fun kq v5 w' => ∃ (x5_1 : Int), v5 = .int .i64 x5_1 ∧ Aside0 (organonref03_digits.l0 kq a0 a1 x5_1 = some r) ∧ Aside0 (kq ≤ k) ∧ Drawn0 w w')
  case atStart => exact ⟨(0), (by first | rfl | (simp; done) | (simp [*]; done)), H', ⟨Nat.le_refl _⟩, by repeat (first | exact Drawn0.refl _ | apply Drawn0.step)⟩
  case round =>
    clear H'
    try clear c2
    try clear p2
    obtain ⟨x5_1, rfl, HA, HK1, ⟨m1, rfl⟩⟩ := hrel
    cases gk with
    | zero => exact absurd HA.out (by simp [organonref03_digits.l0])
    | succ k1 =>
      have H := HA.out
      clear HA
      simp only [organonref03_digits.l0] at H
      by_cases c3 : (wrap64 (a1 + x5_1)) < (a0.size : Int)
      · rw [if_pos c3] at H
        have c3b0 : decide ((wrap64 (a1 + x5_1)) < (a0.size : Int)) = true := decide_eq_true c3
        clear c3
        obtain ⟨ji4, hji4⟩ : ∃ j_ : Int, (wrap64 (a1 + x5_1)) = j_ := ⟨_, rfl⟩
        replace H : (if 0 ≤ (ji4) then ((organonref03_isDigit.f (bt a0 (ji4))).bind fun t105 => (if t105 = true then (organonref03_digits.l0 k1 a0 a1 (wrap64 (x5_1 + 1))) else (some x5_1))) else (none)) = some r := by first | (rw [hji4] at H; exact H) | (simp only [hji4] at H ⊢; exact H)
        (try rw [hji4] at c3b0)
        have hji4w : (IntKind.i64.wrap (a1 + x5_1)) = ji4 := (i64_w _).trans hji4
        by_cases c5 : 0 ≤ (ji4)
        · rw [if_pos c5] at H
          have c5b0 : decide (0 ≤ (ji4)) = true := decide_eq_true c5
          clear c5
          replace H := Option.bind_eq_some_iff.mp H
          obtain ⟨t105, A70, H⟩ := H
          replace H : (if t105 = true then (organonref03_digits.l0 k1 a0 a1 (wrap64 (x5_1 + 1))) else (some x5_1)) = some r := H
          have A7 := Aside0.mk A70
          clear A70
          by_cases c8 : t105 = true
          · subst c8
            have H1 : (organonref03_digits.l0 k1 a0 a1 (wrap64 (x5_1 + 1))) = some r := by rw [if_pos rfl] at H; exact H
            clear H
            have H := H1
            clear H1
            have H' := Aside0.mk H
            clear H
            have p6 : 0 ≤ ((ji4) : Int) := of_decide_eq_true (by first | (with_reducible assumption) | assumption)
            have q6 : (ji4) < (a0.size : Int) := of_decide_eq_true (by first | (with_reducible assumption) | assumption)
            have hx6 := bt_at a0 (ji4)
            replace p6 := eq_true p6
            replace q6 := eq_true q6
            go_wp2_with (first | (go_at_call 31; (with_reducible refine (organonref03_isDigit.calls (bt a0 (ji4)) true _ A7.out).mono ?_); rintro e w' ⟨rfl, ⟨nd, rfl⟩⟩))
            go_roundg k1
            case measure => have := HK1.out; omega
            case rel => exact ⟨(wrap64 (x5_1 + 1)), (by first | rfl | (simp; done) | (simp [*]; done)), H', ⟨by have := HK1.out; omega⟩, by repeat (first | exact Drawn0.refl _ | apply Drawn0.step)⟩
          · replace c8 := Bool.eq_false_iff.mpr c8
            subst c8
            have H1 : (some x5_1) = some r := by rw [if_neg (show ¬ (false = true) by decide)] at H; exact H
            clear H
            have H := H1
            clear H1
            obtain rfl := Option.some.inj H
            have p6 : 0 ≤ ((ji4) : Int) := of_decide_eq_true (by first | (with_reducible assumption) | assumption)
            have q6 : (ji4) < (a0.size : Int) := of_decide_eq_true (by first | (with_reducible assumption) | assumption)
            have hx6 := bt_at a0 (ji4)
            replace p6 := eq_true p6
            replace q6 := eq_true q6
            go_wp2_with (first | (go_at_call 31; (with_reducible refine (organonref03_isDigit.calls (bt a0 (ji4)) false _ A7.out).mono ?_); rintro e w' ⟨rfl, ⟨nd, rfl⟩⟩))
            go_ret
            exact ⟨by first | rfl | (simp; done) | (simp only [← hji4] <;> (first | rfl | simp)) | (simp [*]; done), by repeat (first | exact Drawn0.refl _ | apply Drawn0.step)⟩
        · rw [if_neg c5] at H
          exact absurd H (by simp)
      · rw [if_neg c3] at H
        have c3b0 : decide ((wrap64 (a1 + x5_1)) < (a0.size : Int)) = false := decide_eq_false c3
        clear c3
        obtain rfl := Option.some.inj H
        go_wp2
        go_ret
        exact ⟨by first | rfl | (simp; done) | (simp [*]; done), by repeat (first | exact Drawn0.refl _ | apply Drawn0.step)⟩

/-! ### organonref03_number: function 21 -/
mutual
def organonref03_number.j0 : Nat → ByteArray → Int → Bool → Option (Int)
  | 0, _, _, _ => none
  | k + 1, x0, x1, x24 => if x24 = true then (some (-1)) else (organonref03_number.l0 k x0 x1 0 0)
def organonref03_number.l0 : Nat → ByteArray → Int → Int → Int → Option (Int)
  | 0, _, _, _, _ => none
  | k + 1, x0, x1, x5, x6 => if x6 < (x0.size : Int) then (if 0 ≤ x6 then (organonref03_number.l0 k x0 x1 (wrap64 ((wrap64 (x5 * 10)) + (((bt x0 x6) - 48) % 256))) (wrap64 (x6 + 1))) else (none)) else (if x5 > x1 then (some (-1)) else (some x5))
end
def organonref03_number.f (k : Nat) (a0 : ByteArray) (a1 : Int) : Option (Int) := if (a0.size : Int) = 0 then (organonref03_number.j0 k a0 a1 true) else (if (a0.size : Int) > 2 then (organonref03_number.j0 k a0 a1 true) else (if (a0.size : Int) = 2 then (if 0 < (a0.size : Int) then (organonref03_number.j0 k a0 a1 ((bt a0 0) == 48)) else (none)) else (organonref03_number.j0 k a0 a1 false)))
theorem organonref03_number.mono_l : ∀ k, (∀ y0 y1 y2, LeO (organonref03_number.j0 k y0 y1 y2) (organonref03_number.j0 (k + 1) y0 y1 y2)) ∧ (∀ y0 y1 y2 y3, LeO (organonref03_number.l0 k y0 y1 y2 y3) (organonref03_number.l0 (k + 1) y0 y1 y2 y3))
  | 0 => ⟨fun _ _ _ r h => by simp [organonref03_number.j0] at h, fun _ _ _ _ r h => by simp [organonref03_number.l0] at h⟩
  | k + 1 => by
    obtain ⟨ih0, ih1⟩ := organonref03_number.mono_l k
    refine ⟨?_, ?_⟩
    · intro y0 y1 y2
      unfold organonref03_number.j0
      repeat' first
      | (with_reducible exact ih0 _ _ _)
      | (with_reducible exact ih1 _ _ _ _)
      | (with_reducible exact LeO.refl _)
      | (with_reducible exact LeO.none _)
      | (with_reducible refine LeO.ite ?_ ?_)
      | (with_reducible refine LeO.bind ?_ (fun _ => ?_))
      | exact ih0 _ _ _
      | exact ih1 _ _ _ _
      | exact LeO.none _
      | refine LeO.ite ?_ ?_
      | refine LeO.bind ?_ (fun _ => ?_)
    · intro y0 y1 y2 y3
      unfold organonref03_number.l0
      repeat' first
      | (with_reducible exact ih0 _ _ _)
      | (with_reducible exact ih1 _ _ _ _)
      | (with_reducible exact LeO.refl _)
      | (with_reducible exact LeO.none _)
      | (with_reducible refine LeO.ite ?_ ?_)
      | (with_reducible refine LeO.bind ?_ (fun _ => ?_))
      | exact ih0 _ _ _
      | exact ih1 _ _ _ _
      | exact LeO.none _
      | refine LeO.ite ?_ ?_
      | refine LeO.bind ?_ (fun _ => ?_)
theorem organonref03_number.mono : ∀ a0 a1 k, LeO (organonref03_number.f k a0 a1) (organonref03_number.f (k + 1) a0 a1) := by
  intro a0 a1 k
  obtain ⟨ih0, ih1⟩ := organonref03_number.mono_l k
  unfold organonref03_number.f
  repeat' first
      | (with_reducible exact ih0 _ _ _)
      | (with_reducible exact ih1 _ _ _ _)
      | (with_reducible exact LeO.refl _)
      | (with_reducible exact LeO.none _)
      | (with_reducible refine LeO.ite ?_ ?_)
      | (with_reducible refine LeO.bind ?_ (fun _ => ?_))
      | exact ih0 _ _ _
      | exact ih1 _ _ _ _
      | exact LeO.none _
      | refine LeO.ite ?_ ?_
      | refine LeO.bind ?_ (fun _ => ?_)
set_option maxHeartbeats 8000000 in
set_option maxRecDepth 100000 in
theorem organonref03_number.calls (k : Nat) (a0 : ByteArray) (a1 : Int) (r : Int) (w : World) (h : organonref03_number.f k a0 a1 = some r) :
    Calls Try.prog 21 #[.string a0, .int .i64 a1] w fun e w' => e = .returned (.int .i64 r) ∧ Drawn0 w w' := by
  have H : (if (a0.size : Int) = 0 then (organonref03_number.j0 k a0 a1 true) else (if (a0.size : Int) > 2 then (organonref03_number.j0 k a0 a1 true) else (if (a0.size : Int) = 2 then (if 0 < (a0.size : Int) then (organonref03_number.j0 k a0 a1 ((bt a0 0) == 48)) else (none)) else (organonref03_number.j0 k a0 a1 false)))) = some r := h
  clear h
  have HC3 := Aside0.mk H
  clear H
  go_enter Try.func21, Try.ntmps21
  go_upto_region 1 with (fail)
  go_cut [24] (fun v24 wc => ∃ (kq : Nat) (x24_2 : Bool), v24 = .bool x24_2 ∧ Aside0 (organonref03_number.j0 kq a0 a1 x24_2 = some r) ∧ Aside0 (kq ≤ k) ∧ Drawn0 w wc)
  case first =>
    have H := HC3.out
    clear HC3
    by_cases c4 : (a0.size : Int) = 0
    · rw [if_pos c4] at H
      have c4b0 : ((a0.size : Int) == 0) = true := beq_iff_eq.mpr c4
      have c4b1 : ((a0.size : Int) != 0) = false := bne_eq_false_iff_eq.mpr c4
      clear c4
      (first | rw [c4b0] | (simp only [i64_w, i32_w]; rw [c4b0]) | skip)
      have H' := Aside0.mk H
      clear H
      go_wp2
      go_meet
      case rel => exact ⟨_, (true), (by first | rfl | (simp; done) | (simp [*]; done)), H', ⟨by first | omega | exact Nat.le_refl _⟩, by repeat (first | exact Drawn0.refl _ | apply Drawn0.step)⟩
    · rw [if_neg c4] at H
      have c4b0 : ((a0.size : Int) == 0) = false := beq_eq_false_iff_ne.mpr c4
      have c4b1 : ((a0.size : Int) != 0) = true := bne_iff_ne.mpr c4
      (first | rw [c4b0] | (simp only [i64_w, i32_w]; rw [c4b0]) | skip)
      by_cases c5 : (a0.size : Int) > 2
      · rw [if_pos c5] at H
        have c5b0 : decide (2 < (a0.size : Int)) = true := decide_eq_true c5
        have c5b1 : decide (2 < a0.size) = true := decide_eq_true (by omega)
        clear c5
        have H' := Aside0.mk H
        clear H
        go_wp2
        go_meet
        case rel => exact ⟨_, (true), (by first | rfl | (simp; done) | (simp [*]; done)), H', ⟨by first | omega | exact Nat.le_refl _⟩, by repeat (first | exact Drawn0.refl _ | apply Drawn0.step)⟩
      · rw [if_neg c5] at H
        have c5b0 : decide (2 < (a0.size : Int)) = false := decide_eq_false c5
        have c5b1 : decide (2 < a0.size) = false := decide_eq_false (by omega)
        clear c5
        by_cases c6 : (a0.size : Int) = 2
        · rw [if_pos c6] at H
          have c6b0 : ((a0.size : Int) == 2) = true := beq_iff_eq.mpr c6
          have c6b1 : ((a0.size : Int) != 2) = false := bne_eq_false_iff_eq.mpr c6
          clear c6
          by_cases c7 : 0 < (a0.size : Int)
          · rw [if_pos c7] at H
            have c7b0 : decide (0 < (a0.size : Int)) = true := decide_eq_true c7
            have c7b1 : decide (0 < a0.size) = true := decide_eq_true (by omega)
            clear c7
            have H' := Aside0.mk H
            clear H
            have p8 : 0 ≤ (0 : Int) := (by omega)
            have q8 : 0 < a0.size := (by have : (0 : Int) < (a0.size : Int) := of_decide_eq_true (by first | (with_reducible assumption) | assumption); omega)
            have hx8 : ∀ h : 0 < a0.size, ((a0[0]'h).toNat : Int) = bt a0 0 := bt_at a0 0
            clear p8
            have qi8 : (0 < (a0.size : Int)) = True := eq_true (of_decide_eq_true (by first | (with_reducible assumption) | assumption))
            replace q8 := eq_true q8
            go_wp2
            go_meet
            case rel => exact ⟨_, (((bt a0 0) == 48)), (by first | rfl | (simp; done) | (simp [*]; done)), H', ⟨by first | omega | exact Nat.le_refl _⟩, by repeat (first | exact Drawn0.refl _ | apply Drawn0.step)⟩
          · rw [if_neg c7] at H
            exact absurd H (by simp)
        · rw [if_neg c6] at H
          have c6b0 : ((a0.size : Int) == 2) = false := beq_eq_false_iff_ne.mpr c6
          have c6b1 : ((a0.size : Int) != 2) = true := bne_iff_ne.mpr c6
          have H' := Aside0.mk H
          clear H
          go_wp2
          go_meet
          case rel => exact ⟨_, (false), (by first | rfl | (simp; done) | (simp [*]; done)), H', ⟨by first | omega | exact Nat.le_refl _⟩, by repeat (first | exact Drawn0.refl _ | apply Drawn0.step)⟩
  case rest =>
    clear HC3
    try clear c2
    try clear p2
    try clear c4
    try clear c4b0
    try clear c4b1
    try clear c5
    try clear c5b0
    try clear c5b1
    try clear c6
    try clear c6b0
    try clear c6b1
    try clear c7
    try clear c7b0
    try clear c7b1
    try clear p8
    try clear q8
    try clear hx8
    try clear qi8
    try clear p8
    try clear q8
    obtain ⟨kq, x24_2, rfl, HA, HJ2, ⟨mc2, rfl⟩⟩ := hcut
    cases kq with
    | zero => exact absurd HA.out (by simp [organonref03_number.j0])
    | succ kj2 =>
      have H := HA.out
      clear HA
      simp only [organonref03_number.j0] at H
      by_cases c9 : x24_2 = true
      · subst c9
        have H1 : (some (-1)) = some r := by rw [if_pos rfl] at H; exact H
        clear H
        have H := H1
        clear H1
        obtain rfl := Option.some.inj H
        go_wp2
        go_ret
        exact ⟨by first | rfl | (simp; done) | (simp [*]; done), by repeat (first | exact Drawn0.refl _ | apply Drawn0.step)⟩
      · replace c9 := Bool.eq_false_iff.mpr c9
        subst c9
        have H1 : (organonref03_number.l0 kj2 a0 a1 0 0) = some r := by rw [if_neg (show ¬ (false = true) by decide)] at H; exact H
        clear H
        have H := H1
        clear H1
        have H' := Aside0.mk H
        clear H
        go_wp2
        go_loopg [5, 6] kj2 (fun kq v5 v6 w' => ∃ (x5_2 : Int) (x6_2 : Int), v5 = .int .i64 x5_2 ∧ v6 = .int .i64 x6_2 ∧ Aside0 (organonref03_number.l0 kq a0 a1 x5_2 x6_2 = some r) ∧ Aside0 (kq ≤ kj2) ∧ Drawn0 w w')
        case atStart => exact ⟨(0), (0), (by first | rfl | (simp; done) | (simp [*]; done)), (by first | rfl | (simp; done) | (simp [*]; done)), H', ⟨Nat.le_refl _⟩, by repeat (first | exact Drawn0.refl _ | apply Drawn0.step)⟩
        case round =>
          clear H'
          try clear c2
          try clear p2
          try clear c4
          try clear c4b0
          try clear c4b1
          try clear c5
          try clear c5b0
          try clear c5b1
          try clear c6
          try clear c6b0
          try clear c6b1
          try clear c7
          try clear c7b0
          try clear c7b1
          try clear p8
          try clear q8
          try clear hx8
          try clear qi8
          try clear c9
          try clear p2
          try clear p8
          try clear q8
          obtain ⟨x5_2, x6_2, rfl, rfl, HA, HK2, ⟨m2, rfl⟩⟩ := hrel
          cases gk with
          | zero => exact absurd HA.out (by simp [organonref03_number.l0])
          | succ k2 =>
            have H := HA.out
            clear HA
            simp only [organonref03_number.l0] at H
            by_cases c10 : x6_2 < (a0.size : Int)
            · rw [if_pos c10] at H
              have c10b0 : decide (x6_2 < (a0.size : Int)) = true := decide_eq_true c10
              clear c10
              by_cases c11 : 0 ≤ x6_2
              · rw [if_pos c11] at H
                have c11b0 : decide (0 ≤ x6_2) = true := decide_eq_true c11
                clear c11
                have H' := Aside0.mk H
                clear H
                have p12 : 0 ≤ (x6_2 : Int) := of_decide_eq_true (by first | (with_reducible assumption) | assumption)
                have q12 : x6_2 < (a0.size : Int) := of_decide_eq_true (by first | (with_reducible assumption) | assumption)
                have hx12 := bt_at a0 x6_2
                replace p12 := eq_true p12
                replace q12 := eq_true q12
                go_wp2
                go_roundg k2
                case measure => have := HJ2.out; have := HK2.out; omega
                case rel => exact ⟨(wrap64 ((wrap64 (x5_2 * 10)) + (((bt a0 x6_2) - 48) % 256))), (wrap64 (x6_2 + 1)), (by first | rfl | (simp; done) | (simp [*]; done)), (by first | rfl | (simp; done) | (simp [*]; done)), H', ⟨by have := HJ2.out; have := HK2.out; omega⟩, by repeat (first | exact Drawn0.refl _ | apply Drawn0.step)⟩
              · rw [if_neg c11] at H
                exact absurd H (by simp)
            · rw [if_neg c10] at H
              have c10b0 : decide (x6_2 < (a0.size : Int)) = false := decide_eq_false c10
              clear c10
              by_cases c13 : x5_2 > a1
              · rw [if_pos c13] at H
                have c13b0 : decide (a1 < x5_2) = true := decide_eq_true c13
                clear c13
                obtain rfl := Option.some.inj H
                go_wp2
                go_ret
                exact ⟨by first | rfl | (simp; done) | (simp [*]; done), by repeat (first | exact Drawn0.refl _ | apply Drawn0.step)⟩
              · rw [if_neg c13] at H
                have c13b0 : decide (a1 < x5_2) = false := decide_eq_false c13
                clear c13
                obtain rfl := Option.some.inj H
                go_wp2
                go_ret
                exact ⟨by first | rfl | (simp; done) | (simp [*]; done), by repeat (first | exact Drawn0.refl _ | apply Drawn0.step)⟩

/-! ### organonref03_kindOf: function 22 -/
def organonref03_kindOf.f (a0 : Int) : Option (Int) := if a0 = 120 then (some 1) else (if a0 = 102 then (some 2) else (some 3))
set_option maxHeartbeats 8000000 in
set_option maxRecDepth 100000 in
theorem organonref03_kindOf.calls (a0 : Int) (r : Int) (w : World) (h : organonref03_kindOf.f a0 = some r) :
    Calls Try.prog 22 #[.int .u8 a0] w fun e w' => e = .returned (.int .i64 r) ∧ Drawn0 w w' := by
  have H : (if a0 = 120 then (some 1) else (if a0 = 102 then (some 2) else (some 3))) = some r := h
  clear h
  by_cases c2 : a0 = 120
  · rw [if_pos c2] at H
    have c2b0 : (a0 == 120) = true := beq_iff_eq.mpr c2
    have c2b1 : (a0 != 120) = false := bne_eq_false_iff_eq.mpr c2
    clear c2
    obtain rfl := Option.some.inj H
    go_enter Try.func22, Try.ntmps22
    go_wp2
    go_ret
    exact ⟨by first | rfl | (simp; done) | (simp [*]; done), by repeat (first | exact Drawn0.refl _ | apply Drawn0.step)⟩
  · rw [if_neg c2] at H
    have c2b0 : (a0 == 120) = false := beq_eq_false_iff_ne.mpr c2
    have c2b1 : (a0 != 120) = true := bne_iff_ne.mpr c2
    by_cases c3 : a0 = 102
    · rw [if_pos c3] at H
      have c3b0 : (a0 == 102) = true := beq_iff_eq.mpr c3
      have c3b1 : (a0 != 102) = false := bne_eq_false_iff_eq.mpr c3
      clear c3
      obtain rfl := Option.some.inj H
      go_enter Try.func22, Try.ntmps22
      go_wp2
      go_ret
      exact ⟨by first | rfl | (simp; done) | (simp [*]; done), by repeat (first | exact Drawn0.refl _ | apply Drawn0.step)⟩
    · rw [if_neg c3] at H
      have c3b0 : (a0 == 102) = false := beq_eq_false_iff_ne.mpr c3
      have c3b1 : (a0 != 102) = true := bne_iff_ne.mpr c3
      obtain rfl := Option.some.inj H
      go_enter Try.func22, Try.ntmps22
      go_wp2
      go_ret
      exact ⟨by first | rfl | (simp; done) | (simp [*]; done), by repeat (first | exact Drawn0.refl _ | apply Drawn0.step)⟩

end Go.Proofs.Ytipggffdknonmaa.PParseTokens
