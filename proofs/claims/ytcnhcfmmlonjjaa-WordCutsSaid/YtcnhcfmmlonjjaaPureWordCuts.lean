/- Proved: for every uint64 d and every int bits, WordCuts(d, bits) returns true: no condition. -/
import Derived.Test.YtcnhcfmmlonjjaaPWordCutsx1
import Derived.Test.YtcnhcfmmlonjjaaBase
namespace Go.Proofs.Ytcnhcfmmlonjjaa.Pure
open Go.RowKit Go.Proofs.Ytcnhcfmmlonjjaa.PWordCuts Go.Proofs.YtcnhcfmmlonjjaaW.PrintWords Go.Proofs.YtcnhcfmmlonjjaaW.PrintLast Go.Proofs.Ytcnhcfmmlonjjaa.Base
theorem power_l0 (n : Nat) (hn : n ≤ 63) (d : Nat) : ∀ (i k : Nat), i + d = n → d < k → organonref01_Power.l0 k (n : Int) ((2 ^ i : Nat) : Int) (i : Int) = some ((2 ^ n : Nat) : Int) := by
  induction d with
  | zero =>
    intro i k h hk
    obtain ⟨k, rfl⟩ : ∃ m, k = m + 1 := ⟨k - 1, by omega⟩
    simp only [organonref01_Power.l0]
    rw [if_neg (by omega), show i = n from by omega]
  | succ d ih =>
    intro i k h hk
    obtain ⟨k, rfl⟩ : ∃ m, k = m + 1 := ⟨k - 1, by omega⟩
    simp only [organonref01_Power.l0]
    have hp : 2 ^ (i + 1) ≤ 2 ^ 63 := Nat.pow_le_pow_right (by decide) (by omega)
    have hs : 2 ^ (i + 1) = 2 ^ i * 2 := Nat.pow_succ 2 i
    rw [if_pos (by omega), u64w_id (by omega) (by omega), wrap64_id (by omega) (by omega)]
    have := ih (i + 1) k (by omega) (by omega)
    rw [← this]
    congr 1
theorem power_in (n : Nat) (hn : n ≤ 63) (k : Nat) (hk : 70 ≤ k) : organonref01_Power.f k (n : Int) = some ((2 ^ n : Nat) : Int) := by
  unfold organonref01_Power.f
  obtain ⟨k, rfl⟩ : ∃ m, k = m + 1 := ⟨k - 1, by omega⟩
  rw [if_neg (by omega), decide_eq_false (by omega)]
  simp only [organonref01_Power.j0]
  rw [if_neg (by decide)]
  exact power_l0 n hn n 0 k (by omega) (by omega)
theorem power_out (n : Int) (hn : n < 0 ∨ 63 < n) (k : Nat) (hk : 1 ≤ k) : organonref01_Power.f k n = some 0 := by
  unfold organonref01_Power.f
  obtain ⟨k, rfl⟩ : ∃ m, k = m + 1 := ⟨k - 1, by omega⟩
  by_cases h : n < 0
  · rw [if_pos h]; simp only [organonref01_Power.j0]; rw [if_true]
  · rw [if_neg h, decide_eq_true (by omega)]; simp only [organonref01_Power.j0]; rw [if_true]

theorem cut_in (d b : Nat) (hb : b ≤ 64) : word_Cut.f (d : Int) (b : Int) = some (((d / 2 ^ (64 - b) : Nat) : Int), 0) := by
  unfold word_Cut.f
  rw [if_neg (by omega), if_neg (by omega), wrap64_id (by omega) (by omega), u64w_id (by omega) (by omega), if_pos (by omega)]
  rw [show (64 : Int) - (b : Int) = ((64 - b : Nat) : Int) from by omega, shr_nat _ _ _ (by simp [IntKind.bits])]
theorem cut_out (d b : Int) (hb : b < 0 ∨ 64 < b) : word_Cut.f d b = some (0, 1) := by
  unfold word_Cut.f
  by_cases h : b < 0
  · rw [if_pos h]
  · rw [if_neg h, if_pos (by omega)]
theorem ref_cut_in (d b : Nat) (hd : d < 18446744073709551616) (hb : b ≤ 64) (k : Nat) (hk : 100 ≤ k) : organonref01_Cut.f k (d : Int) (b : Int) = some (((d / 2 ^ (64 - b) : Nat) : Int), 0) := by
  unfold organonref01_Cut.f
  obtain ⟨k, rfl⟩ : ∃ m, k = m + 1 := ⟨k - 1, by omega⟩
  rw [if_neg (by omega), decide_eq_false (by omega)]
  simp only [organonref01_Cut.j0]
  rw [if_neg (by decide)]
  by_cases h : b = 0
  · subst h
    rw [if_pos (show ((0 : Nat) : Int) = 0 from rfl), Nat.div_eq_of_lt (by simpa using hd)]; rfl
  · rw [if_neg (by omega), wrap64_id (by omega) (by omega), show (64 : Int) - (b : Int) = ((64 - b : Nat) : Int) from by omega, power_in _ (by omega) _ (by omega)]
    simp only [some_bind]
    have hp : 0 < 2 ^ (64 - b) := Nat.two_pow_pos _
    have hq : d / 2 ^ (64 - b) ≤ d := Nat.div_le_self _ _
    rw [if_neg (by omega), Int.tdiv_eq_ediv_of_nonneg (by omega), ← Int.natCast_ediv]
    generalize d / 2 ^ (64 - b) = q at *
    rw [u64w_id (by omega) (by omega)]
theorem ref_cut_out (d b : Int) (hb : b < 0 ∨ 64 < b) (k : Nat) (hk : 100 ≤ k) : organonref01_Cut.f k d b = some (0, 1) := by
  unfold organonref01_Cut.f
  obtain ⟨k, rfl⟩ : ∃ m, k = m + 1 := ⟨k - 1, by omega⟩
  by_cases h : b < 0
  · rw [if_pos h]; simp only [organonref01_Cut.j0]; rw [if_true]
  · rw [if_neg h, decide_eq_true (by omega)]; simp only [organonref01_Cut.j0]; rw [if_true]
theorem WordCuts : organonlaw01_WordCuts.Pure := by
  intro d b hd hb
  obtain ⟨d0, d1⟩ := wf_u64 hd
  obtain ⟨b0, b1⟩ := wf_i64 hb
  refine ⟨200, ?_⟩
  unfold organonlaw01_WordCuts.f
  by_cases hr : b < 0 ∨ 64 < b
  · rw [cut_out d b hr, ref_cut_out d b hr _ (by omega)]
    simp only [some_bind, if_true, bne_self_eq_false]
    simp only [organonlaw01_WordCuts.j0]
    rw [if_neg (by decide)]
    by_cases h : b < 1
    · rw [if_pos h]
    · rw [if_neg h, if_pos (by omega)]
  · obtain ⟨d, rfl⟩ := Int.eq_ofNat_of_zero_le d0
    obtain ⟨b, rfl⟩ := Int.eq_ofNat_of_zero_le (show 0 ≤ b by omega)
    rw [cut_in d b (by omega), ref_cut_in d b (by omega) (by omega) _ (by omega)]
    simp only [some_bind, if_true, bne_self_eq_false]
    simp only [organonlaw01_WordCuts.j0]
    rw [if_neg (by decide)]
    by_cases h : (b : Int) < 1
    · rw [if_pos h]
    · rw [if_neg h, if_neg (by omega), wrap64_id (by omega) (by omega), show (b : Int) - 1 = ((b - 1 : Nat) : Int) from by omega, cut_in d (b - 1) (by omega)]
      simp only [some_bind, if_true]
      rw [show 64 - (b - 1) = (64 - b) + 1 from by omega, Nat.pow_succ, ← Nat.div_div_eq_div_mul]
      have hq : d / 2 ^ (64 - b) ≤ d := Nat.div_le_self _ _
      generalize d / 2 ^ (64 - b) = q at *
      rw [Int.tdiv_eq_ediv_of_nonneg (by omega), u64w_id (by omega) (by omega)]
      simp

end Go.Proofs.Ytcnhcfmmlonjjaa.Pure
