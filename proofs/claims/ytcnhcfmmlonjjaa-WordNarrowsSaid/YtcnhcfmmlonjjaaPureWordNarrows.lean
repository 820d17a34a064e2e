/- Proved: for every int64 n and every int width, WordNarrows(n, width) returns true: no condition. -/
import Derived.Test.YtcnhcfmmlonjjaaPWordNarrowsx1
import Derived.Test.YtcnhcfmmlonjjaaBase
namespace Go.Proofs.Ytcnhcfmmlonjjaa.Pure
open Go.RowKit Go.Proofs.Ytcnhcfmmlonjjaa.PWordNarrows Go.Proofs.YtcnhcfmmlonjjaaW.PrintWords Go.Proofs.YtcnhcfmmlonjjaaW.PrintLast Go.Proofs.Ytcnhcfmmlonjjaa.Base
theorem power_l0 (n : Nat) (hn : n ≤ 63) (d : Nat) : ∀ (i k : Nat), i + d = n → d < k → organonref01_Power.l0 k (n : Int) ((2 ^ i : Nat) : Int) (i : Int) = some ((2 ^ n : Nat) : Int) := by
  induction d with
  | zero =>
    intro i k h hk
    obtain ⟨k, rfl⟩ : ∃ m, k = m + 1 := ⟨k - 1, by omega⟩
    simp only [organonref01_Power.l0]
    rw [if_neg (by omega), show i = n from by omega]
  | succ d ih =>
    intro i k h hk
    obtain ⟨k, rfl⟩ : ∃ m, k = m + 1 := ⟨k - 1, by omega⟩
    simp only [organonref01_Power.l0]
    have hp : 2 ^ (i + 1) ≤ 2 ^ 63 := Nat.pow_le_pow_right (by decide) (by omega)
    have hs : 2 ^ (i + 1) = 2 ^ i * 2 := Nat.pow_succ 2 i
    rw [if_pos (by omega), u64w_id (by omega) (by omega), wrap64_id (by omega) (by omega)]
    have := ih (i + 1) k (by omega) (by omega)
    rw [← this]
    congr 1
theorem power_in (n : Nat) (hn : n ≤ 63) (k : Nat) (hk : 70 ≤ k) : organonref01_Power.f k (n : Int) = some ((2 ^ n : Nat) : Int) := by
  unfold organonref01_Power.f
  obtain ⟨k, rfl⟩ : ∃ m, k = m + 1 := ⟨k - 1, by omega⟩
  rw [if_neg (by omega), decide_eq_false (by omega)]
  simp only [organonref01_Power.j0]
  rw [if_neg (by decide)]
  exact power_l0 n hn n 0 k (by omega) (by omega)
theorem power_out (n : Int) (hn : n < 0 ∨ 63 < n) (k : Nat) (hk : 1 ≤ k) : organonref01_Power.f k n = some 0 := by
  unfold organonref01_Power.f
  obtain ⟨k, rfl⟩ : ∃ m, k = m + 1 := ⟨k - 1, by omega⟩
  by_cases h : n < 0
  · rw [if_pos h]; simp only [organonref01_Power.j0]; rw [if_true]
  · rw [if_neg h, decide_eq_true (by omega)]; simp only [organonref01_Power.j0]; rw [if_true]

/-- The number of w bits, w from 1 to 64, that differs by a multiple of 2^w. -/
def nar (n : Int) (w : Nat) : Int := (n + 2 ^ (w - 1)) % 2 ^ w - 2 ^ (w - 1)
theorem pow_parts (w : Nat) (h0 : 1 ≤ w) (h1 : w ≤ 64) : (2 : Int) ^ w = 2 * 2 ^ (w - 1) ∧ (2 : Int) ^ (w - 1) * 2 ^ (64 - w) = 9223372036854775808 ∧ 0 < (2 : Int) ^ (w - 1) ∧ 0 < (2 : Int) ^ (64 - w) ∧ (2 : Int) ^ (w - 1) ≤ 9223372036854775808 := by
  have e1 : (2 : Int) ^ (w - 1) * 2 ^ (64 - w) = 9223372036854775808 := by
    rw [← Int.pow_add, show w - 1 + (64 - w) = 63 from by omega]; rfl
  have p1 : 0 < (2 : Int) ^ (w - 1) := Int.pow_pos (by decide)
  have p2 : 0 < (2 : Int) ^ (64 - w) := Int.pow_pos (by decide)
  refine ⟨?_, e1, p1, p2, ?_⟩
  · rw [show w = (w - 1) + 1 from by omega, Int.pow_succ, show w - 1 + 1 - 1 = w - 1 from by omega, Int.mul_comm]
  · have : (2 : Int) ^ (w - 1) * 1 ≤ (2 : Int) ^ (w - 1) * 2 ^ (64 - w) := Int.mul_le_mul_of_nonneg_left (by omega) (by omega)
    omega
theorem nar_bounds (n : Int) (w : Nat) (h0 : 1 ≤ w) (h1 : w ≤ 64) : -(2 ^ (w - 1)) ≤ nar n w ∧ nar n w < 2 ^ (w - 1) := by
  obtain ⟨e, _, p, _, _⟩ := pow_parts w h0 h1
  unfold nar
  have := Int.emod_nonneg (n + 2 ^ (w - 1)) (b := 2 ^ w) (by omega)
  have := Int.emod_lt_of_pos (n + 2 ^ (w - 1)) (b := 2 ^ w) (by omega)
  omega
theorem nar_same (n : Int) (w : Nat) (h0 : 1 ≤ w) (h1 : w ≤ 64) (hl : -(2 ^ (w - 1)) ≤ n) (hh : n < 2 ^ (w - 1)) : nar n w = n := by
  obtain ⟨e, _, p, _, _⟩ := pow_parts w h0 h1
  unfold nar
  rw [Int.emod_eq_of_lt (by omega) (by omega)]; omega
theorem narrow_in (n : Int) (w : Nat) (h0 : 1 ≤ w) (h1 : w ≤ 64) : word_Narrow.f n (w : Int) = some (nar n w, 0) := by
  obtain ⟨e, m, p, q, _⟩ := pow_parts w h0 h1
  unfold word_Narrow.f
  rw [if_neg (by omega), if_neg (by omega), wrap64_id (by omega) (by omega), u64w_id (by omega) (by omega), if_pos (by omega), show (64 : Int) - (w : Int) = ((64 - w : Nat) : Int) from by omega]
  unfold shl shr nar
  rw [i64w, show (((64 - w : Nat) : Int)).toNat = 64 - w from by omega, show IntKind.i64.bits = 64 from rfl, Nat.min_eq_left (by omega)]
  generalize (2 : Int) ^ (w - 1) = h at *
  generalize (2 : Int) ^ w = pp at *
  generalize (2 : Int) ^ (64 - w) = s at *
  unfold wrap64
  have hs : s ≠ 0 := by omega
  have e2 : n * s + 9223372036854775808 = (n + h) * s := by rw [Int.add_mul, m]
  have e3 : (18446744073709551616 : Int) = pp * s := by rw [e, Int.mul_assoc, m]; rfl
  rw [e2, e3, Int.mul_comm (n + h) s, Int.mul_comm pp s, Int.mul_emod_mul_of_pos _ _ q, ← m, Int.mul_comm h s, ← Int.mul_sub, Int.mul_ediv_cancel_left _ hs]
theorem narrow_out (n w : Int) (h : w < 1 ∨ 64 < w) : word_Narrow.f n w = some (0, 1) := by
  unfold word_Narrow.f
  by_cases h' : w < 1
  · rw [if_pos h']
  · rw [if_neg h', if_pos (by omega)]

theorem ref_narrow_in (n : Int) (hn0 : -9223372036854775808 ≤ n) (hn1 : n < 9223372036854775808) (w : Nat) (h0 : 1 ≤ w) (h1 : w ≤ 64) (k : Nat) (hk : 100 ≤ k) : organonref01_Narrow.f k n (w : Int) = some (nar n w, 0) := by
  obtain ⟨e, m, p, q, u⟩ := pow_parts w h0 h1
  obtain ⟨b0, b1⟩ := nar_bounds n w h0 h1
  unfold organonref01_Narrow.f
  obtain ⟨k, rfl⟩ : ∃ m, k = m + 1 := ⟨k - 1, by omega⟩
  rw [if_neg (by omega), decide_eq_false (by omega)]
  simp only [organonref01_Narrow.j0]
  rw [if_neg (by decide)]
  by_cases h : w = 64
  · subst h
    rw [if_pos (show ((64 : Nat) : Int) = 64 from rfl), nar_same n 64 (by omega) (by omega) (by simpa using hn0) (by simpa using hn1)]
  · rw [if_neg (by omega), power_in w (by omega) _ (by omega)]
    simp only [some_bind]
    have ec : ((2 ^ w : Nat) : Int) = (2 : Int) ^ w := by rw [Int.natCast_pow]; rfl
    rw [ec, if_neg (by omega)]
    have e3 : (18446744073709551616 : Int) = 2 ^ w * 2 ^ (64 - w) := by rw [e, Int.mul_assoc, m]; rfl
    have e4 : Int.tmod (IntKind.u64.wrap n) (2 ^ w) = n % 2 ^ w := by
      rw [u64w, Int.tmod_eq_emod_of_nonneg (by omega), Int.emod_emod_of_dvd _ ⟨2 ^ (64 - w), e3⟩]
    have e5 : IntKind.u64.wrap (Int.tdiv (2 ^ w) 2) = 2 ^ (w - 1) := by
      rw [Int.tdiv_eq_ediv_of_nonneg (by omega), e, u64w_id (by omega) (by omega)]; omega
    have hw2 : (2 : Int) ^ w ≤ 9223372036854775808 := by
      have h2 : (2 : Nat) ^ w ≤ 2 ^ 63 := Nat.pow_le_pow_right (by decide) (by omega)
      rw [← ec]; omega
    rw [e4, e5]
    have r0 := Int.emod_nonneg n (b := 2 ^ w) (by omega)
    have r1 := Int.emod_lt_of_pos n (b := 2 ^ w) (by omega)
    unfold nar at *
    by_cases hc : n % 2 ^ w ≥ 2 ^ (w - 1)
    · rw [if_pos hc]
      have : (n + 2 ^ (w - 1)) % 2 ^ w = n % 2 ^ w - 2 ^ (w - 1) := by
        rw [← Int.emod_add_emod, show n % 2 ^ w + 2 ^ (w - 1) = (n % 2 ^ w - 2 ^ (w - 1)) + 2 ^ w from by omega, Int.add_emod_right, Int.emod_eq_of_lt (by omega) (by omega)]
      rw [this]
      generalize (2 : Int) ^ w = pp at *
      generalize (2 : Int) ^ (w - 1) = hh at *
      generalize n % pp = r at *
      rw [u64w, show (r - pp) % 18446744073709551616 = r - pp + 18446744073709551616 from by omega]
      congr 2
      unfold wrap64; omega
    · rw [if_neg hc]
      have : (n + 2 ^ (w - 1)) % 2 ^ w = n % 2 ^ w + 2 ^ (w - 1) := by
        rw [← Int.emod_add_emod, Int.emod_eq_of_lt (by omega) (by omega)]
      rw [this, wrap64_id (by omega) (by omega)]
      congr 2; omega
theorem ref_narrow_out (n w : Int) (h : w < 1 ∨ 64 < w) (k : Nat) (hk : 100 ≤ k) : organonref01_Narrow.f k n w = some (0, 1) := by
  unfold organonref01_Narrow.f
  obtain ⟨k, rfl⟩ : ∃ m, k = m + 1 := ⟨k - 1, by omega⟩
  by_cases h' : w < 1
  · rw [if_pos h']; simp only [organonref01_Narrow.j0]; rw [if_true]
  · rw [if_neg h', decide_eq_true (by omega)]; simp only [organonref01_Narrow.j0]; rw [if_true]
theorem WordNarrows : organonlaw01_WordNarrows.Pure := by
  intro n w hn hw
  obtain ⟨n0, n1⟩ := wf_i64 hn
  refine ⟨200, ?_⟩
  unfold organonlaw01_WordNarrows.f
  by_cases hr : w < 1 ∨ 64 < w
  · rw [narrow_out n w hr, ref_narrow_out n w hr _ (by omega)]
    simp
  · obtain ⟨w, rfl⟩ := Int.eq_ofNat_of_zero_le (show 0 ≤ w by omega)
    rw [narrow_in n w (by omega) (by omega), ref_narrow_in n n0 n1 w (by omega) (by omega) _ (by omega)]
    simp

end Go.Proofs.Ytcnhcfmmlonjjaa.Pure
