/- Proved: for every int64 n and all ints width and more, WordKeeps(n, width, more) returns true: no condition. -/
import Derived.Test.YtcnhcfmmlonjjaaPWordKeepsx1
import Derived.Test.YtcnhcfmmlonjjaaBase
namespace Go.Proofs.Ytcnhcfmmlonjjaa.Pure
open Go.RowKit Go.Proofs.Ytcnhcfmmlonjjaa.PWordKeeps Go.Proofs.YtcnhcfmmlonjjaaW.PrintWords Go.Proofs.YtcnhcfmmlonjjaaW.PrintLast Go.Proofs.Ytcnhcfmmlonjjaa.Base
/-- The number of w bits, w from 1 to 64, that differs by a multiple of 2^w. -/
def nar (n : Int) (w : Nat) : Int := (n + 2 ^ (w - 1)) % 2 ^ w - 2 ^ (w - 1)
theorem pow_parts (w : Nat) (h0 : 1 ≤ w) (h1 : w ≤ 64) : (2 : Int) ^ w = 2 * 2 ^ (w - 1) ∧ (2 : Int) ^ (w - 1) * 2 ^ (64 - w) = 9223372036854775808 ∧ 0 < (2 : Int) ^ (w - 1) ∧ 0 < (2 : Int) ^ (64 - w) ∧ (2 : Int) ^ (w - 1) ≤ 9223372036854775808 := by
  have e1 : (2 : Int) ^ (w - 1) * 2 ^ (64 - w) = 9223372036854775808 := by
    rw [← Int.pow_add, show w - 1 + (64 - w) = 63 from by omega]; rfl
  have p1 : 0 < (2 : Int) ^ (w - 1) := Int.pow_pos (by decide)
  have p2 : 0 < (2 : Int) ^ (64 - w) := Int.pow_pos (by decide)
  refine ⟨?_, e1, p1, p2, ?_⟩
  · rw [show w = (w - 1) + 1 from by omega, Int.pow_succ, show w - 1 + 1 - 1 = w - 1 from by omega, Int.mul_comm]
  · have : (2 : Int) ^ (w - 1) * 1 ≤ (2 : Int) ^ (w - 1) * 2 ^ (64 - w) := Int.mul_le_mul_of_nonneg_left (by omega) (by omega)
    omega
theorem nar_bounds (n : Int) (w : Nat) (h0 : 1 ≤ w) (h1 : w ≤ 64) : -(2 ^ (w - 1)) ≤ nar n w ∧ nar n w < 2 ^ (w - 1) := by
  obtain ⟨e, _, p, _, _⟩ := pow_parts w h0 h1
  unfold nar
  have := Int.emod_nonneg (n + 2 ^ (w - 1)) (b := 2 ^ w) (by omega)
  have := Int.emod_lt_of_pos (n + 2 ^ (w - 1)) (b := 2 ^ w) (by omega)
  omega
theorem nar_same (n : Int) (w : Nat) (h0 : 1 ≤ w) (h1 : w ≤ 64) (hl : -(2 ^ (w - 1)) ≤ n) (hh : n < 2 ^ (w - 1)) : nar n w = n := by
  obtain ⟨e, _, p, _, _⟩ := pow_parts w h0 h1
  unfold nar
  rw [Int.emod_eq_of_lt (by omega) (by omega)]; omega
theorem narrow_in (n : Int) (w : Nat) (h0 : 1 ≤ w) (h1 : w ≤ 64) : word_Narrow.f n (w : Int) = some (nar n w, 0) := by
  obtain ⟨e, m, p, q, _⟩ := pow_parts w h0 h1
  unfold word_Narrow.f
  rw [if_neg (by omega), if_neg (by omega), wrap64_id (by omega) (by omega), u64w_id (by omega) (by omega), if_pos (by omega), show (64 : Int) - (w : Int) = ((64 - w : Nat) : Int) from by omega]
  unfold shl shr nar
  rw [i64w, show (((64 - w : Nat) : Int)).toNat = 64 - w from by omega, show IntKind.i64.bits = 64 from rfl, Nat.min_eq_left (by omega)]
  generalize (2 : Int) ^ (w - 1) = h at *
  generalize (2 : Int) ^ w = pp at *
  generalize (2 : Int) ^ (64 - w) = s at *
  unfold wrap64
  have hs : s ≠ 0 := by omega
  have e2 : n * s + 9223372036854775808 = (n + h) * s := by rw [Int.add_mul, m]
  have e3 : (18446744073709551616 : Int) = pp * s := by rw [e, Int.mul_assoc, m]; rfl
  rw [e2, e3, Int.mul_comm (n + h) s, Int.mul_comm pp s, Int.mul_emod_mul_of_pos _ _ q, ← m, Int.mul_comm h s, ← Int.mul_sub, Int.mul_ediv_cancel_left _ hs]
theorem narrow_out (n w : Int) (h : w < 1 ∨ 64 < w) : word_Narrow.f n w = some (0, 1) := by
  unfold word_Narrow.f
  by_cases h' : w < 1
  · rw [if_pos h']
  · rw [if_neg h', if_pos (by omega)]

theorem WordKeeps : organonlaw01_WordKeeps.Pure := by
  intro n w m hn hw hm
  obtain ⟨n0, n1⟩ := wf_i64 hn
  obtain ⟨w0, w1⟩ := wf_i64 hw
  refine ⟨10, ?_⟩
  unfold organonlaw01_WordKeeps.f
  rw [show (64 : Int) = ((64 : Nat) : Int) from rfl, narrow_in n 64 (by omega) (by omega), nar_same n 64 (by omega) (by omega) (by simpa using n0) (by simpa using n1)]
  simp only [some_bind, if_true, bne_self_eq_false]
  have out : ∀ k, organonlaw01_WordKeeps.j1 (k + 1) n w m true = some true := by
    intro k
    simp only [organonlaw01_WordKeeps.j1]; rw [if_true]
  simp only [organonlaw01_WordKeeps.j0]
  rw [if_neg (by decide)]
  by_cases h1 : w < 1
  · rw [if_pos h1, out]
  rw [if_neg h1]
  by_cases h2 : w > 64
  · rw [if_pos h2, out]
  rw [if_neg h2]
  by_cases h3 : m < 0
  · rw [if_pos h3, out]
  rw [if_neg h3, wrap64_id (by omega) (by omega)]
  by_cases h4 : m > 64 - w
  · rw [decide_eq_true h4, out]
  rw [decide_eq_false h4]
  simp only [organonlaw01_WordKeeps.j1]
  rw [if_neg (by decide), wrap64_id (by omega) (by omega)]
  obtain ⟨w, rfl⟩ := Int.eq_ofNat_of_zero_le (show 0 ≤ w by omega)
  obtain ⟨m, rfl⟩ := Int.eq_ofNat_of_zero_le (show 0 ≤ m by omega)
  rw [narrow_in n w (by omega) (by omega)]
  simp only [some_bind, if_true]
  rw [show (w : Int) + (m : Int) = ((w + m : Nat) : Int) from by omega, narrow_in _ (w + m) (by omega) (by omega)]
  obtain ⟨b0, b1⟩ := nar_bounds n w (by omega) (by omega)
  have hp : (2 : Int) ^ (w - 1) ≤ 2 ^ (w + m - 1) := by
    have h : (2 : Nat) ^ (w - 1) ≤ 2 ^ (w + m - 1) := Nat.pow_le_pow_right (by decide) (by omega)
    have e : ∀ j, ((2 ^ j : Nat) : Int) = (2 : Int) ^ j := fun j => by rw [Int.natCast_pow]; rfl
    rw [← e, ← e]; omega
  rw [nar_same (nar n w) (w + m) (by omega) (by omega) (by omega) (by omega)]
  simp

end Go.Proofs.Ytcnhcfmmlonjjaa.Pure
