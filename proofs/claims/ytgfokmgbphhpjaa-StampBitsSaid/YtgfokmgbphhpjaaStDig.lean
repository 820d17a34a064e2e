/- Digest and Cut in plain terms: the stamp of a row of bytes. -/
import Derived.Test.YtgfokmgbphhpjaaPStampKeepsx3
import Derived.Test.YtgfokmgbphhpjaaRot
namespace Go.Proofs.Ytgfokmgbphhpjaa.St
open Go.RowKit Go.Proofs.Ytgfokmgbphhpjaa.PStampKeeps Go.Proofs.YtgfokmgbphhpjaaW.PrintWords Go.Proofs.YtgfokmgbphhpjaaW.PrintLast Go.Proofs.Ytgfokmgbphhpjaa.Base Go.Proofs.Ytgfokmgbphhpjaa.Rot
set_option linter.unusedVariables false
set_option linter.unusedSimpArgs false
theorem rd_nat (xs : List Int) (i : Nat) (h : i < xs.length) : rd xs (i : Int) = xs[i] := by
  unfold rd
  rw [show ((i : Int)).toNat = i from by omega, List.getD_eq_getElem?_getD, List.getElem?_eq_getElem h]; rfl
theorem take_snoc (xs : List Int) (i : Nat) (h : i < xs.length) : xs.take (i + 1) = xs.take i ++ [xs[i]] := by
  rw [List.take_succ_eq_append_getElem h]
theorem tmod64 (a : Int) : Int.tmod a 64 = if 0 ≤ a then a % 64 else -((-a) % 64) := by
  by_cases h : 0 ≤ a
  · rw [if_pos h, Int.tmod_eq_emod_of_nonneg h]
  · rw [if_neg h, ← Int.tmod_eq_emod_of_nonneg (show 0 ≤ -a by omega), Int.neg_tmod, Int.neg_neg]
theorem rotate_tells (u : Nat) (hu : u < 18446744073709551616) (a : Int) : bits_RotateLeft64.f (u : Int) a = some ((rotl u (a % 64).toNat : Nat) : Int) := by
  have hm : Go.bits .and .u64 (IntKind.u64.wrap a) 63 = a % 64 := by
    have h := Go.bits_mask .u64 64 (by decide) (fun n h0 h1 => u64w_id h0 (by omega)) 6 (by decide) (IntKind.u64.wrap a) (by rw [u64w]; omega) (by rw [u64w]; omega)
    rw [show (2 : Int) ^ 6 - 1 = 63 from rfl] at h
    rw [h, u64w]; omega
  unfold bits_RotateLeft64.f
  rw [hm]
  obtain ⟨s, hs⟩ := Int.eq_ofNat_of_zero_le (show 0 ≤ a % 64 by omega)
  have hs2 : s ≤ 63 := by omega
  rw [hs, if_pos (by omega), u64w_id (by omega) (by omega), if_pos (by omega), show (64 : Int) - (s : Int) = ((64 - s : Nat) : Int) from by omega, shl_u64 u s (by omega), shr_nat _ u (64 - s) (by simp [IntKind.bits])]
  rw [show ((s : Int)).toNat = s from by omega]
  obtain ⟨p1, p2⟩ := rotl_parts u s (by omega) hu
  have hq : u / 2 ^ (64 - s) ≤ u := Nat.div_le_self _ _
  have hl := Nat.mod_lt (u * 2 ^ s) (show 0 < 18446744073709551616 by decide)
  have hz : u * 2 ^ s % 18446744073709551616 % 2 ^ s = 0 := by
    rw [Nat.mod_mod_of_dvd _ (show 2 ^ s ∣ 18446744073709551616 from ⟨2 ^ (64 - s), by rw [← Nat.pow_add, show s + (64 - s) = 64 from by omega]⟩)]
    exact Nat.mul_mod_left u (2 ^ s)
  have hr : rotl u s = u * 2 ^ s % 18446744073709551616 + u / 2 ^ (64 - s) := rfl
  rw [hr]
  generalize u / 2 ^ (64 - s) = y at *
  generalize u * 2 ^ s % 18446744073709551616 = x at *
  rw [n64_or x y hl (by omega), nat_or_add x y s hz p2]
theorem turn_tells (u : Nat) (hu : u < 18446744073709551616) (a : Int) : word_Turn.f (u : Int) a = some ((rotl u (a % 64).toNat : Nat) : Int) := by
  unfold word_Turn.f
  rw [rotate_tells u hu]
  simp only [some_bind]
  congr 4
  rw [tmod64]; split <;> omega
/-- What two words mixed are. -/
def mixN (h x : Nat) : Nat :=
  let t := rotl (h ^^^ x) 27 * 11400714819323198485 % 18446744073709551616
  t ^^^ (t / 2147483648)
theorem xor_lt (a b : Nat) (ha : a < 18446744073709551616) (hb : b < 18446744073709551616) : a ^^^ b < 18446744073709551616 := by
  have := Nat.xor_lt_two_pow (n := 64) (by simpa using ha) (by simpa using hb)
  simpa using this
theorem mixN_lt (h x : Nat) : mixN h x < 18446744073709551616 := by
  unfold mixN
  exact xor_lt _ _ (by omega) (by omega)
theorem mix_tells (h x : Nat) (hh : h < 18446744073709551616) (hx : x < 18446744073709551616) : word_Mix.f (h : Int) (x : Int) = some ((mixN h x : Nat) : Int) := by
  unfold word_Mix.f mixN
  rw [n64_xor h x hh hx, turn_tells _ (xor_lt h x hh hx)]
  simp only [some_bind]
  rw [show ((27 : Int) % 64).toNat = 27 from rfl]
  generalize rotl (h ^^^ x) 27 = t
  rw [u64w, show ((t : Int) * 11400714819323198485) % 18446744073709551616 = ((t * 11400714819323198485 % 18446744073709551616 : Nat) : Int) from by omega]
  have : t * 11400714819323198485 % 18446744073709551616 < 18446744073709551616 := Nat.mod_lt _ (by decide)
  generalize t * 11400714819323198485 % 18446744073709551616 = v at *
  rw [show (v : Int) / 2147483648 = ((v / 2147483648 : Nat) : Int) from by omega, n64_xor v _ this (by omega)]
/-- What mixing in some bytes, one by one, makes of a word. -/
def dig (h : Nat) (l : List Int) : Nat := l.foldl (fun h c => mixN h c.toNat) h
theorem dig_snoc (h : Nat) (l : List Int) (c : Int) : dig h (l ++ [c]) = mixN (dig h l) c.toNat := by unfold dig; rw [List.foldl_append, List.foldl_cons, List.foldl_nil]
theorem dig_lt (h : Nat) (hh : h < 18446744073709551616) (l : List Int) : dig h l < 18446744073709551616 := by
  induction l generalizing h with
  | nil => exact hh
  | cons c l ih =>
    have e : dig h (c :: l) = dig (mixN h c.toNat) l := by unfold dig; rw [List.foldl_cons]
    rw [e]
    exact ih _ (mixN_lt _ _)
theorem dig_nil (h : Nat) : dig h [] = h := rfl
def h0 : Nat := 14695981039346656037
theorem h0_lt : h0 < 18446744073709551616 := by unfold h0; omega
theorem h0_cast : (14695981039346656037 : Int) = ((h0 : Nat) : Int) := by unfold h0; omega
theorem digest_l0 (l : List Int) (hl : l.length ≤ 140737488351232) (hb : ∀ x ∈ l, 0 ≤ x ∧ x < 256) (d : Nat) : ∀ (i k : Nat), i + d = l.length → d < k →
    word_Digest.l0 k l ((dig h0 (l.take i) : Nat) : Int) l (l.length : Int) (i : Int) = some ((mixN (dig h0 l) l.length : Nat) : Int) := by
  induction d with
  | zero =>
    intro i k h hk
    obtain ⟨k, rfl⟩ : ∃ m, k = m + 1 := ⟨k - 1, by omega⟩
    simp only [word_Digest.l0]
    rw [if_neg (by omega), show i = l.length from by omega, List.take_length, u64w_id (by omega) (by omega), mix_tells _ _ (dig_lt _ h0_lt l) (by omega)]
    simp only [some_bind]
  | succ d ih =>
    intro i k h hk
    obtain ⟨k, rfl⟩ : ∃ m, k = m + 1 := ⟨k - 1, by omega⟩
    have hi : i < l.length := by omega
    obtain ⟨b0, b1⟩ := hb l[i] (List.getElem_mem hi)
    simp only [word_Digest.l0]
    rw [if_pos (by omega), if_pos (by omega), if_pos (by omega), rd_nat l i hi, u64w_id (by omega) (by omega), wrap64_id (by omega) (by omega), show (i : Int) + 1 = ((i + 1 : Nat) : Int) from by omega]
    have nxt := ih (i + 1) k (by omega) (by omega)
    rw [take_snoc l i hi, dig_snoc] at nxt
    have e : l[i] = ((l[i].toNat : Nat) : Int) := by omega
    rw [e, mix_tells _ _ (dig_lt _ h0_lt _) (by omega)]
    simp only [some_bind]
    exact nxt
theorem digest_tells (l : List Int) (hl : l.length ≤ 140737488351232) (hb : ∀ x ∈ l, 0 ≤ x ∧ x < 256) (k : Nat) (hk : l.length < k) : word_Digest.f k l = some ((mixN (dig h0 l) l.length : Nat) : Int) := by
  unfold word_Digest.f
  have := digest_l0 l hl hb l.length 0 k (by omega) hk
  rw [List.take_zero, dig_nil] at this
  rw [h0_cast]
  exact this

/-- The digest of a row, and its stamp of some bits. -/
def digN (l : List Int) : Nat := mixN (dig h0 l) l.length
def stN (b : Nat) (l : List Int) : Nat := digN l / 2 ^ (64 - b)
theorem digN_lt (l : List Int) : digN l < 18446744073709551616 := mixN_lt _ _
theorem stN_lt (b : Nat) (l : List Int) : stN b l < 18446744073709551616 := Nat.lt_of_le_of_lt (Nat.div_le_self _ _) (digN_lt l)
theorem digest_digN (l : List Int) (hl : l.length ≤ 140737488351232) (hb : ∀ x ∈ l, 0 ≤ x ∧ x < 256) (k : Nat) (hk : l.length < k) : word_Digest.f k l = some ((digN l : Nat) : Int) := digest_tells l hl hb k hk
theorem cut_tells (u b : Nat) (hb : b ≤ 64) : word_Cut.f (u : Int) (b : Int) = some (((u / 2 ^ (64 - b) : Nat) : Int), 0) := by
  unfold word_Cut.f
  rw [if_neg (by omega), if_neg (by omega), wrap64_id (by omega) (by omega), u64w_id (by omega) (by omega), if_pos (by omega), show (64 : Int) - (b : Int) = ((64 - b : Nat) : Int) from by omega, shr_nat _ u (64 - b) (by simp [IntKind.bits])]
end Go.Proofs.Ytgfokmgbphhpjaa.St
