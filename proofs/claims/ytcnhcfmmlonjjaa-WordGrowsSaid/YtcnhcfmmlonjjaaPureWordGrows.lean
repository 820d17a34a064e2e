/- Proved: for every byte slice b, WordGrows(b) returns true: no condition. -/
import Derived.Test.YtcnhcfmmlonjjaaOWordGrowsx2
import Derived.Test.YtcnhcfmmlonjjaaSz
import Derived.Test.YtcnhcfmmlonjjaaBase
import Derived.Test.YtcnhcfmmlonjjaaRot
namespace Go.Proofs.Ytcnhcfmmlonjjaa.Pure
open Go.RowKit Go.Proofs.Ytcnhcfmmlonjjaa.PWordGrows Go.Proofs.YtcnhcfmmlonjjaaW.PrintWords Go.Proofs.YtcnhcfmmlonjjaaW.PrintLast Go.Proofs.Ytcnhcfmmlonjjaa.Sz Go.Proofs.Ytcnhcfmmlonjjaa.Base Go.Proofs.Ytcnhcfmmlonjjaa.Rot
theorem tmod64 (a : Int) : Int.tmod a 64 = if 0 ≤ a then a % 64 else -((-a) % 64) := by
  by_cases h : 0 ≤ a
  · rw [if_pos h, Int.tmod_eq_emod_of_nonneg h]
  · rw [if_neg h, ← Int.tmod_eq_emod_of_nonneg (show 0 ≤ -a by omega), Int.neg_tmod, Int.neg_neg]
theorem rotate_tells (u : Nat) (hu : u < 18446744073709551616) (a : Int) : bits_RotateLeft64.f (u : Int) a = some ((rotl u (a % 64).toNat : Nat) : Int) := by
  have hm : Go.bits .and .u64 (IntKind.u64.wrap a) 63 = a % 64 := by
    have h := Go.bits_mask .u64 64 (by decide) (fun n h0 h1 => u64w_id h0 (by omega)) 6 (by decide) (IntKind.u64.wrap a) (by rw [u64w]; omega) (by rw [u64w]; omega)
    rw [show (2 : Int) ^ 6 - 1 = 63 from rfl] at h
    rw [h, u64w]; omega
  unfold bits_RotateLeft64.f
  rw [hm]
  obtain ⟨s, hs⟩ := Int.eq_ofNat_of_zero_le (show 0 ≤ a % 64 by omega)
  have hs2 : s ≤ 63 := by omega
  rw [hs, if_pos (by omega), u64w_id (by omega) (by omega), if_pos (by omega), show (64 : Int) - (s : Int) = ((64 - s : Nat) : Int) from by omega, shl_u64 u s (by omega), shr_nat _ u (64 - s) (by simp [IntKind.bits])]
  rw [show ((s : Int)).toNat = s from by omega]
  obtain ⟨p1, p2⟩ := rotl_parts u s (by omega) hu
  have hq : u / 2 ^ (64 - s) ≤ u := Nat.div_le_self _ _
  have hl := Nat.mod_lt (u * 2 ^ s) (show 0 < 18446744073709551616 by decide)
  have hz : u * 2 ^ s % 18446744073709551616 % 2 ^ s = 0 := by
    rw [Nat.mod_mod_of_dvd _ (show 2 ^ s ∣ 18446744073709551616 from ⟨2 ^ (64 - s), by rw [← Nat.pow_add, show s + (64 - s) = 64 from by omega]⟩)]
    exact Nat.mul_mod_left u (2 ^ s)
  have hr : rotl u s = u * 2 ^ s % 18446744073709551616 + u / 2 ^ (64 - s) := rfl
  rw [hr]
  generalize u / 2 ^ (64 - s) = y at *
  generalize u * 2 ^ s % 18446744073709551616 = x at *
  rw [n64_or x y hl (by omega), nat_or_add x y s hz p2]
theorem turn_tells (u : Nat) (hu : u < 18446744073709551616) (a : Int) : word_Turn.f (u : Int) a = some ((rotl u (a % 64).toNat : Nat) : Int) := by
  unfold word_Turn.f
  rw [rotate_tells u hu]
  simp only [some_bind]
  congr 4
  rw [tmod64]; split <;> omega
theorem ref_turn_l0 (n : Nat) (hn : n ≤ 64) (u : Nat) (hu : u < 18446744073709551616) (d : Nat) : ∀ (i k : Nat), i + d = n → d < k → organonref01_Turn.l0 k ((rotl u i : Nat) : Int) (n : Int) (i : Int) = some ((rotl u n : Nat) : Int) := by
  induction d with
  | zero =>
    intro i k h hk
    obtain ⟨k, rfl⟩ : ∃ m, k = m + 1 := ⟨k - 1, by omega⟩
    simp only [organonref01_Turn.l0]
    rw [if_neg (by omega), show i = n from by omega]
  | succ d ih =>
    intro i k h hk
    obtain ⟨k, rfl⟩ : ∃ m, k = m + 1 := ⟨k - 1, by omega⟩
    simp only [organonref01_Turn.l0]
    have hl := rotl_lt u i (by omega) hu
    have hs := rotl_succ u i (by omega) hu
    rw [if_pos (by omega), Int.tdiv_eq_ediv_of_nonneg (by omega), wrap64_id (by omega) (by omega), ← ih (i + 1) k (by omega) (by omega), ← hs]
    unfold rot1
    generalize rotl u i = x at *
    congr 1
    rw [u64w, u64w, u64w]; omega
theorem ref_turn_tells (u : Nat) (hu : u < 18446744073709551616) (a : Int) (k : Nat) (hk : 100 ≤ k) : organonref01_Turn.f k (u : Int) a = some ((rotl u (a % 64).toNat : Nat) : Int) := by
  unfold organonref01_Turn.f
  obtain ⟨k, rfl⟩ : ∃ m, k = m + 1 := ⟨k - 1, by omega⟩
  have ht := tmod64 a
  have go : ∀ b : Int, 0 ≤ b → b < 64 → organonref01_Turn.j0 (k + 1) (u : Int) b = some ((rotl u b.toNat : Nat) : Int) := by
    intro b h0 h1
    obtain ⟨n, rfl⟩ := Int.eq_ofNat_of_zero_le h0
    simp only [organonref01_Turn.j0]
    have := ref_turn_l0 n (by omega) u hu n 0 k (by omega) (by omega)
    rw [rotl_zero u hu] at this
    exact this
  by_cases h : Int.tmod a 64 < 0
  · rw [if_pos h, wrap64_id (by split at ht <;> omega) (by split at ht <;> omega), go _ (by split at ht <;> omega) (by omega)]
    congr 4; split at ht <;> omega
  · rw [if_neg h, go _ (by omega) (by split at ht <;> omega)]
    congr 4; split at ht <;> omega

theorem power_l0 (n : Nat) (hn : n ≤ 63) (d : Nat) : ∀ (i k : Nat), i + d = n → d < k → organonref01_Power.l0 k (n : Int) ((2 ^ i : Nat) : Int) (i : Int) = some ((2 ^ n : Nat) : Int) := by
  induction d with
  | zero =>
    intro i k h hk
    obtain ⟨k, rfl⟩ : ∃ m, k = m + 1 := ⟨k - 1, by omega⟩
    simp only [organonref01_Power.l0]
    rw [if_neg (by omega), show i = n from by omega]
  | succ d ih =>
    intro i k h hk
    obtain ⟨k, rfl⟩ : ∃ m, k = m + 1 := ⟨k - 1, by omega⟩
    simp only [organonref01_Power.l0]
    have hp : 2 ^ (i + 1) ≤ 2 ^ 63 := Nat.pow_le_pow_right (by decide) (by omega)
    have hs : 2 ^ (i + 1) = 2 ^ i * 2 := Nat.pow_succ 2 i
    rw [if_pos (by omega), u64w_id (by omega) (by omega), wrap64_id (by omega) (by omega)]
    have := ih (i + 1) k (by omega) (by omega)
    rw [← this]
    congr 1
theorem power_in (n : Nat) (hn : n ≤ 63) (k : Nat) (hk : 70 ≤ k) : organonref01_Power.f k (n : Int) = some ((2 ^ n : Nat) : Int) := by
  unfold organonref01_Power.f
  obtain ⟨k, rfl⟩ : ∃ m, k = m + 1 := ⟨k - 1, by omega⟩
  rw [if_neg (by omega), decide_eq_false (by omega)]
  simp only [organonref01_Power.j0]
  rw [if_neg (by decide)]
  exact power_l0 n hn n 0 k (by omega) (by omega)
theorem power_out (n : Int) (hn : n < 0 ∨ 63 < n) (k : Nat) (hk : 1 ≤ k) : organonref01_Power.f k n = some 0 := by
  unfold organonref01_Power.f
  obtain ⟨k, rfl⟩ : ∃ m, k = m + 1 := ⟨k - 1, by omega⟩
  by_cases h : n < 0
  · rw [if_pos h]; simp only [organonref01_Power.j0]; rw [if_true]
  · rw [if_neg h, decide_eq_true (by omega)]; simp only [organonref01_Power.j0]; rw [if_true]

theorem has_in (s n : Nat) (hs : s < 18446744073709551616) (hn : n ≤ 63) (k : Nat) (hk : 70 ≤ k) : organonref01_Has.f k (s : Int) (n : Int) = some (decide (s / 2 ^ n % 2 = 1)) := by
  unfold organonref01_Has.f
  rw [power_in n hn k hk]
  simp only [some_bind]
  have hp : 0 < 2 ^ n := Nat.two_pow_pos n
  have hq : s / 2 ^ n ≤ s := Nat.div_le_self _ _
  rw [if_neg (by omega), Int.tdiv_eq_ediv_of_nonneg (by omega), ← Int.natCast_ediv]
  generalize s / 2 ^ n = q at *
  rw [u64w_id (by omega) (by omega), Int.tmod_eq_emod_of_nonneg (by omega)]
  congr 1
  rw [Bool.eq_iff_iff, beq_iff_eq, decide_eq_true_iff]
  omega
theorem has_out (s n : Int) (hn : n < 0 ∨ 63 < n) (k : Nat) (hk : 1 ≤ k) : organonref01_Has.f k s n = some false := by
  unfold organonref01_Has.f
  rw [power_out n hn k hk]
  simp only [some_bind, if_true]

theorem xor_bit (a b i : Nat) : (a ^^^ b) / 2 ^ i % 2 = (a / 2 ^ i % 2 + b / 2 ^ i % 2) % 2 := by
  have h := Nat.testBit_xor (x := a) (y := b) (i := i)
  rw [Nat.testBit_eq_decide_div_mod_eq, Nat.testBit_eq_decide_div_mod_eq, Nat.testBit_eq_decide_div_mod_eq] at h
  rcases Nat.mod_two_eq_zero_or_one (a / 2 ^ i) with ha | ha <;> rcases Nat.mod_two_eq_zero_or_one (b / 2 ^ i) with hb | hb <;> rw [ha, hb] at h ⊢ <;> simp at h <;> omega
theorem differ_l0 (a b : Nat) (ha : a < 18446744073709551616) (hb : b < 18446744073709551616) (d : Nat) : ∀ (i k : Nat), i + d = 64 → d + 80 < k → organonref01_Differ.l0 k (a : Int) (b : Int) (((a ^^^ b) % 2 ^ i : Nat) : Int) (i : Int) = some ((a ^^^ b : Nat) : Int) := by
  have hx : a ^^^ b < 2 ^ 64 := Nat.xor_lt_two_pow (by simpa using ha) (by simpa using hb)
  induction d with
  | zero =>
    intro i k h hk
    obtain ⟨k, rfl⟩ : ∃ m, k = m + 1 := ⟨k - 1, by omega⟩
    simp only [organonref01_Differ.l0]
    rw [if_neg (by omega), show i = 64 from by omega, Nat.mod_eq_of_lt hx]
  | succ d ih =>
    intro i k h hk
    obtain ⟨k, rfl⟩ : ∃ m, k = m + 1 := ⟨k - 1, by omega⟩
    simp only [organonref01_Differ.l0]
    rw [if_pos (by omega), has_in a i ha (by omega) k (by omega), has_in b i hb (by omega) k (by omega)]
    simp only [some_bind]
    have hsp := Nat.mod_pow_succ (b := 2) (k := i) (x := a ^^^ b)
    have hxb := xor_bit a b i
    have hm : (a ^^^ b) % 2 ^ i < 2 ^ i := Nat.mod_lt _ (Nat.two_pow_pos i)
    have hp : 2 ^ i ≤ 2 ^ 63 := Nat.pow_le_pow_right (by decide) (by omega)
    have nxt := ih (i + 1) k (by omega) (by omega)
    rw [hsp, hxb] at nxt
    have hp2 : a / 2 ^ i % 2 < 2 := Nat.mod_lt _ (by decide)
    have hq2 : b / 2 ^ i % 2 < 2 := Nat.mod_lt _ (by decide)
    generalize a / 2 ^ i % 2 = p at *
    generalize b / 2 ^ i % 2 = q at *
    by_cases hpq : p = q
    · subst hpq
      rw [if_neg (by simp), wrap64_id (by omega) (by omega)]
      rw [show (p + p) % 2 = 0 from by omega, Nat.mul_zero, Nat.add_zero] at nxt
      exact nxt
    · have hne : (decide (p = 1) != decide (q = 1)) = true := by
        rcases (show p = 0 ∨ p = 1 by omega) with h1 | h1 <;> rcases (show q = 0 ∨ q = 1 by omega) with h2 | h2 <;> subst h1 <;> subst h2 <;> simp at hpq ⊢
      rw [if_pos hne, power_in i (by omega) k (by omega)]
      simp only [some_bind]
      rw [show (p + q) % 2 = 1 from by omega, Nat.mul_one] at nxt
      generalize (a ^^^ b) % 2 ^ i = m at *
      generalize 2 ^ i = w at *
      rw [u64w_id (by omega) (by omega), wrap64_id (by omega) (by omega), show (m : Int) + (w : Int) = ((m + w : Nat) : Int) from by omega]
      exact nxt
theorem differ_tells (a b : Nat) (ha : a < 18446744073709551616) (hb : b < 18446744073709551616) (k : Nat) (hk : 200 ≤ k) : organonref01_Differ.f k (a : Int) (b : Int) = some ((a ^^^ b : Nat) : Int) := by
  unfold organonref01_Differ.f
  have := differ_l0 a b ha hb 64 0 k (by omega) (by omega)
  rw [Nat.pow_zero, Nat.mod_one] at this
  exact this

/-- What two words mixed are. -/
def mixN (h x : Nat) : Nat :=
  let t := rotl (h ^^^ x) 27 * 11400714819323198485 % 18446744073709551616
  t ^^^ (t / 2147483648)
theorem xor_lt (a b : Nat) (ha : a < 18446744073709551616) (hb : b < 18446744073709551616) : a ^^^ b < 18446744073709551616 := by
  have := Nat.xor_lt_two_pow (n := 64) (by simpa using ha) (by simpa using hb)
  simpa using this
theorem mixN_lt (h x : Nat) : mixN h x < 18446744073709551616 := by
  unfold mixN
  exact xor_lt _ _ (by omega) (by omega)
theorem mix_tells (h x : Nat) (hh : h < 18446744073709551616) (hx : x < 18446744073709551616) : word_Mix.f (h : Int) (x : Int) = some ((mixN h x : Nat) : Int) := by
  unfold word_Mix.f mixN
  rw [n64_xor h x hh hx, turn_tells _ (xor_lt h x hh hx)]
  simp only [some_bind]
  rw [show ((27 : Int) % 64).toNat = 27 from rfl]
  generalize rotl (h ^^^ x) 27 = t
  rw [u64w, show ((t : Int) * 11400714819323198485) % 18446744073709551616 = ((t * 11400714819323198485 % 18446744073709551616 : Nat) : Int) from by omega]
  have : t * 11400714819323198485 % 18446744073709551616 < 18446744073709551616 := Nat.mod_lt _ (by decide)
  generalize t * 11400714819323198485 % 18446744073709551616 = v at *
  rw [show (v : Int) / 2147483648 = ((v / 2147483648 : Nat) : Int) from by omega, n64_xor v _ this (by omega)]

theorem ref_mix_tells (h x : Nat) (hh : h < 18446744073709551616) (hx : x < 18446744073709551616) (k : Nat) (hk : 200 ≤ k) : organonref01_Mix.f k (h : Int) (x : Int) = some ((mixN h x : Nat) : Int) := by
  unfold organonref01_Mix.f mixN
  rw [differ_tells h x hh hx k hk]
  simp only [some_bind]
  rw [ref_turn_tells _ (xor_lt h x hh hx) 27 k (by omega)]
  simp only [some_bind]
  rw [show ((27 : Int) % 64).toNat = 27 from rfl]
  generalize rotl (h ^^^ x) 27 = t
  rw [u64w, show ((t : Int) * 11400714819323198485) % 18446744073709551616 = ((t * 11400714819323198485 % 18446744073709551616 : Nat) : Int) from by omega]
  have : t * 11400714819323198485 % 18446744073709551616 < 18446744073709551616 := Nat.mod_lt _ (by decide)
  generalize t * 11400714819323198485 % 18446744073709551616 = v at *
  rw [Int.tdiv_eq_ediv_of_nonneg (by omega), show (v : Int) / 2147483648 = ((v / 2147483648 : Nat) : Int) from by omega, u64w_id (by omega) (by omega), differ_tells v _ this (by omega) k hk]
  simp only [some_bind]

theorem rd_nat (xs : List Int) (i : Nat) (h : i < xs.length) : rd xs (i : Int) = xs[i] := by
  unfold rd
  rw [show ((i : Int)).toNat = i from by omega, List.getD_eq_getElem?_getD, List.getElem?_eq_getElem h]; rfl
theorem take_snoc (xs : List Int) (i : Nat) (h : i < xs.length) : xs.take (i + 1) = xs.take i ++ [xs[i]] := by
  rw [List.take_succ_eq_append_getElem h]

/-- What mixing in some bytes, one by one, makes of a word. -/
def dig (h : Nat) (l : List Int) : Nat := l.foldl (fun h c => mixN h c.toNat) h
theorem dig_snoc (h : Nat) (l : List Int) (c : Int) : dig h (l ++ [c]) = mixN (dig h l) c.toNat := by unfold dig; rw [List.foldl_append, List.foldl_cons, List.foldl_nil]
theorem dig_lt (h : Nat) (hh : h < 18446744073709551616) (l : List Int) : dig h l < 18446744073709551616 := by
  induction l generalizing h with
  | nil => exact hh
  | cons c l ih =>
    have e : dig h (c :: l) = dig (mixN h c.toNat) l := by unfold dig; rw [List.foldl_cons]
    rw [e]
    exact ih _ (mixN_lt _ _)
theorem dig_nil (h : Nat) : dig h [] = h := rfl
def h0 : Nat := 14695981039346656037
theorem h0_lt : h0 < 18446744073709551616 := by unfold h0; omega
theorem h0_cast : (14695981039346656037 : Int) = ((h0 : Nat) : Int) := by unfold h0; omega
theorem digest_l0 (l : List Int) (hl : l.length ≤ 140737488351232) (hb : ∀ x ∈ l, 0 ≤ x ∧ x < 256) (d : Nat) : ∀ (i k : Nat), i + d = l.length → d < k →
    word_Digest.l0 k l ((dig h0 (l.take i) : Nat) : Int) l (l.length : Int) (i : Int) = some ((mixN (dig h0 l) l.length : Nat) : Int) := by
  induction d with
  | zero =>
    intro i k h hk
    obtain ⟨k, rfl⟩ : ∃ m, k = m + 1 := ⟨k - 1, by omega⟩
    simp only [word_Digest.l0]
    rw [if_neg (by omega), show i = l.length from by omega, List.take_length, u64w_id (by omega) (by omega), mix_tells _ _ (dig_lt _ h0_lt l) (by omega)]
    simp only [some_bind]
  | succ d ih =>
    intro i k h hk
    obtain ⟨k, rfl⟩ : ∃ m, k = m + 1 := ⟨k - 1, by omega⟩
    have hi : i < l.length := by omega
    obtain ⟨b0, b1⟩ := hb l[i] (List.getElem_mem hi)
    simp only [word_Digest.l0]
    rw [if_pos (by omega), if_pos (by omega), if_pos (by omega), rd_nat l i hi, u64w_id (by omega) (by omega), wrap64_id (by omega) (by omega), show (i : Int) + 1 = ((i + 1 : Nat) : Int) from by omega]
    have nxt := ih (i + 1) k (by omega) (by omega)
    rw [take_snoc l i hi, dig_snoc] at nxt
    have e : l[i] = ((l[i].toNat : Nat) : Int) := by omega
    rw [e, mix_tells _ _ (dig_lt _ h0_lt _) (by omega)]
    simp only [some_bind]
    exact nxt
theorem digest_tells (l : List Int) (hl : l.length ≤ 140737488351232) (hb : ∀ x ∈ l, 0 ≤ x ∧ x < 256) (k : Nat) (hk : l.length < k) : word_Digest.f k l = some ((mixN (dig h0 l) l.length : Nat) : Int) := by
  unfold word_Digest.f
  have := digest_l0 l hl hb l.length 0 k (by omega) hk
  rw [List.take_zero, dig_nil] at this
  rw [h0_cast]
  exact this

theorem grows_l0 (l : List Int) (hl : l.length ≤ 140737488351232) (hb : ∀ x ∈ l, 0 ≤ x ∧ x < 256) (d : Nat) : ∀ (i k : Nat), i + d = l.length → d + l.length + 100 < k →
    organonlaw01_WordGrows.l0 k l ((dig h0 (l.take i) : Nat) : Int) l (l.length : Int) (i : Int) = some true := by
  induction d with
  | zero =>
    intro i k h hk
    obtain ⟨k, rfl⟩ : ∃ m, k = m + 1 := ⟨k - 1, by omega⟩
    simp only [organonlaw01_WordGrows.l0]
    rw [if_neg (by omega), show i = l.length from by omega, List.take_length, u64w_id (by omega) (by omega), digest_tells l hl hb k (by omega)]
    simp only [some_bind]
    rw [mix_tells _ _ (dig_lt _ h0_lt l) (by omega)]
    simp only [some_bind, beq_self_eq_true]
  | succ d ih =>
    intro i k h hk
    obtain ⟨k, rfl⟩ : ∃ m, k = m + 1 := ⟨k - 1, by omega⟩
    have hi : i < l.length := by omega
    obtain ⟨b0, b1⟩ := hb l[i] (List.getElem_mem hi)
    simp only [organonlaw01_WordGrows.l0]
    rw [if_pos (by omega), if_pos (by omega), if_pos (by omega), rd_nat l i hi, u64w_id (by omega) (by omega), wrap64_id (by omega) (by omega), show (i : Int) + 1 = ((i + 1 : Nat) : Int) from by omega]
    have nxt := ih (i + 1) k (by omega) (by omega)
    rw [take_snoc l i hi, dig_snoc] at nxt
    have e : l[i] = ((l[i].toNat : Nat) : Int) := by omega
    rw [e, mix_tells _ _ (dig_lt _ h0_lt _) (by omega)]
    simp only [some_bind]
    by_cases h40 : (i : Int) < 40
    · rw [if_pos h40, if_pos (by omega), if_pos (by omega), show (((i + 1 : Nat) : Int)).toNat = i + 1 from by omega]
      have ht : (l.take (i + 1)).length = i + 1 := by rw [List.length_take]; omega
      rw [digest_tells (l.take (i + 1)) (by omega) (fun x hx => hb x (List.mem_of_mem_take hx)) k (by omega), ht]
      simp only [some_bind]
      rw [u64w_id (by omega) (by omega), mix_tells _ _ (mixN_lt _ _) (by omega)]
      simp only [some_bind]
      rw [if_pos (by rw [take_snoc l i hi, dig_snoc])]
      exact nxt
    · rw [if_neg h40]; exact nxt
theorem WordGrows : organonlaw01_WordGrows.Pure := by
  intro l hl _ hb
  have hb' : ∀ x ∈ l, 0 ≤ x ∧ x < 256 := fun x hx => wf_u8 (hb x hx)
  obtain ⟨K, hK⟩ : ∃ K : Nat, 2 * l.length + 1000 ≤ K := ⟨_, Nat.le_refl _⟩
  refine ⟨K + 1, ?_⟩
  unfold organonlaw01_WordGrows.f
  have e1 := digest_tells [] (by simp) (by simp) (K + 1) (by simp)
  have e2 := mix_tells h0 0 h0_lt (by omega)
  rw [show ((0 : Nat) : Int) = 0 from rfl] at e2
  rw [h0_cast, e1, e2]
  simp only [some_bind]
  have e3 := mix_tells 1 2 (by omega) (by omega)
  have e4 := ref_mix_tells 1 2 (by omega) (by omega) (K + 1) (by omega)
  rw [show ((1 : Nat) : Int) = 1 from rfl, show ((2 : Nat) : Int) = 2 from rfl] at e3 e4
  rw [dig_nil, List.length_nil, if_pos rfl, e3, e4]
  simp only [some_bind, bne_self_eq_false]
  simp only [organonlaw01_WordGrows.j0]
  rw [if_neg (by decide)]
  have := grows_l0 l (by omega) hb' l.length 0 K (by omega) (by omega)
  rw [List.take_zero, dig_nil] at this
  exact this

end Go.Proofs.Ytcnhcfmmlonjjaa.Pure
