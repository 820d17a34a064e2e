/- Proved: for every int64 n and every uint64 u, WordFolds(n, u) returns true: no condition. -/
import Derived.Test.YtcnhcfmmlonjjaaOWordFoldsx1
import Derived.Test.YtcnhcfmmlonjjaaBase
namespace Go.Proofs.Ytcnhcfmmlonjjaa.Pure
open Go.RowKit Go.Proofs.Ytcnhcfmmlonjjaa.PWordFolds Go.Proofs.YtcnhcfmmlonjjaaW.PrintWords Go.Proofs.YtcnhcfmmlonjjaaW.PrintLast Go.Proofs.Ytcnhcfmmlonjjaa.Base
theorem fold_tells (n : Int) (h0 : -9223372036854775808 ≤ n) (h1 : n < 9223372036854775808) : word_Fold.f n = some (if n ≥ 0 then 2 * n else -2 * n - 1) := by
  unfold word_Fold.f
  by_cases h : n ≥ 0
  · rw [if_pos h, show n / 9223372036854775808 = 0 from by omega, u64w_id (n := n) (by omega) (by omega), u64w_id (n := 0) (by omega) (by omega), u64w_id (n := n * 2) (by omega) (by omega), u64_xor0 _ (by omega) (by omega)]
    congr 1; omega
  · rw [if_neg h, show n / 9223372036854775808 = -1 from by omega, u64w (-1), show (-1 : Int) % 18446744073709551616 = 18446744073709551615 from rfl, u64w n, u64w, u64_xor1s _ (by omega) (by omega)]
    congr 1; omega
theorem ref_fold_tells (n : Int) (h0 : -9223372036854775808 ≤ n) (h1 : n < 9223372036854775808) : organonref01_Fold.f n = some (if n ≥ 0 then 2 * n else -2 * n - 1) := by
  unfold organonref01_Fold.f
  by_cases h : n ≥ 0
  · rw [if_pos h, if_pos h, u64w_id (n := n) (by omega) (by omega), u64w_id (n := n * 2) (by omega) (by omega)]
    congr 1; omega
  · rw [if_neg h, if_neg h, wrap64_id (n := n + 1) (by omega) (by omega), wrap64_id (n := -(n + 1)) (by omega) (by omega), u64w_id (n := -(n + 1)) (by omega) (by omega), u64w_id (n := -(n + 1) * 2) (by omega) (by omega), u64w_id (by omega) (by omega)]
    congr 1; omega
theorem unfold_tells (u : Int) (h0 : 0 ≤ u) (h1 : u < 18446744073709551616) : word_Unfold.f u = some (if u % 2 = 0 then u / 2 else -1 - u / 2) := by
  unfold word_Unfold.f
  rw [u64_and1 u h0 h1, wrap64_id (n := u / 2) (by omega) (by omega), wrap64_id (n := u % 2) (by omega) (by omega), wrap64_id (n := -(u % 2)) (by omega) (by omega)]
  by_cases h : u % 2 = 0
  · rw [if_pos h, h, show -(0 : Int) = 0 from rfl, i64_xor0 _ (by omega) (by omega)]
  · rw [if_neg h, show u % 2 = 1 from by omega, i64_xorm1 _ (by omega) (by omega)]
theorem ref_unfold_tells (u : Int) (h0 : 0 ≤ u) (h1 : u < 18446744073709551616) : organonref01_Unfold.f u = some (if u % 2 = 0 then u / 2 else -1 - u / 2) := by
  unfold organonref01_Unfold.f
  rw [Int.tmod_eq_emod_of_nonneg h0, Int.tdiv_eq_ediv_of_nonneg h0, u64w_id (n := u / 2) (by omega) (by omega), wrap64_id (n := u / 2) (by omega) (by omega), wrap64_id (n := -(u / 2)) (by omega) (by omega), wrap64_id (n := -(u / 2) - 1) (by omega) (by omega)]
  by_cases h : u % 2 = 0
  · rw [if_pos h, if_pos h]
  · rw [if_neg h, if_neg h]; congr 1; omega
theorem WordFolds : organonlaw01_WordFolds.Pure := by
  intro n u hn hu
  obtain ⟨n0, n1⟩ := wf_i64 hn
  obtain ⟨u0, u1⟩ := wf_u64 hu
  unfold organonlaw01_WordFolds.f
  rw [fold_tells n n0 n1, ref_fold_tells n n0 n1, unfold_tells u u0 u1, ref_unfold_tells u u0 u1]
  simp only [some_bind, if_true]
  rw [unfold_tells _ (by split <;> omega) (by split <;> omega)]
  simp only [some_bind]
  rw [if_pos (by split <;> split <;> omega), fold_tells _ (by split <;> omega) (by split <;> omega)]
  simp only [some_bind]
  congr 1
  rw [beq_iff_eq]
  split <;> split <;> omega

end Go.Proofs.Ytcnhcfmmlonjjaa.Pure
