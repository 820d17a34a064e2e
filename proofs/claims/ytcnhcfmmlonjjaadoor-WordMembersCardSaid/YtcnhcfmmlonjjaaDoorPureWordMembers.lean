/- Plain: what the functions that WordMembers calls tell, of every word and every number. -/
import Derived.Test.YtcnhcfmmlonjjaaDoorPWordMembersx1
import Derived.Test.YtcnhcfmmlonjjaaDoorBase
import Derived.Test.YtcnhcfmmlonjjaaDoorRot
import Derived.Test.YtcnhcfmmlonjjaaDoorLst
import Derived.Test.YtcnhcfmmlonjjaaDoorBit
namespace Go.Proofs.YtcnhcfmmlonjjaaDoor.Pure
open Go.RowKit Go.Proofs.YtcnhcfmmlonjjaaDoor.PWordMembers Go.Proofs.YtcnhcfmmlonjjaaDoorW.PrintWords Go.Proofs.YtcnhcfmmlonjjaaDoorW.PrintLast Go.Proofs.YtcnhcfmmlonjjaaDoor.Base Go.Proofs.YtcnhcfmmlonjjaaDoor.Rot Go.Proofs.YtcnhcfmmlonjjaaDoor.Lst Go.Proofs.YtcnhcfmmlonjjaaDoor.Bit
theorem power_l0 (n : Nat) (hn : n ≤ 63) (d : Nat) : ∀ (i k : Nat), i + d = n → d < k → organonref01_Power.l0 k (n : Int) ((2 ^ i : Nat) : Int) (i : Int) = some ((2 ^ n : Nat) : Int) := by
  induction d with
  | zero =>
    intro i k h hk
    obtain ⟨k, rfl⟩ : ∃ m, k = m + 1 := ⟨k - 1, by omega⟩
    simp only [organonref01_Power.l0]
    rw [if_neg (by omega), show i = n from by omega]
  | succ d ih =>
    intro i k h hk
    obtain ⟨k, rfl⟩ : ∃ m, k = m + 1 := ⟨k - 1, by omega⟩
    simp only [organonref01_Power.l0]
    have hp : 2 ^ (i + 1) ≤ 2 ^ 63 := Nat.pow_le_pow_right (by decide) (by omega)
    have hs : 2 ^ (i + 1) = 2 ^ i * 2 := Nat.pow_succ 2 i
    rw [if_pos (by omega), u64w_id (by omega) (by omega), wrap64_id (by omega) (by omega)]
    have := ih (i + 1) k (by omega) (by omega)
    rw [← this]
    congr 1
theorem power_in (n : Nat) (hn : n ≤ 63) (k : Nat) (hk : 70 ≤ k) : organonref01_Power.f k (n : Int) = some ((2 ^ n : Nat) : Int) := by
  unfold organonref01_Power.f
  obtain ⟨k, rfl⟩ : ∃ m, k = m + 1 := ⟨k - 1, by omega⟩
  rw [if_neg (by omega), decide_eq_false (by omega)]
  simp only [organonref01_Power.j0]
  rw [if_neg (by decide)]
  exact power_l0 n hn n 0 k (by omega) (by omega)
theorem power_out (n : Int) (hn : n < 0 ∨ 63 < n) (k : Nat) (hk : 1 ≤ k) : organonref01_Power.f k n = some 0 := by
  unfold organonref01_Power.f
  obtain ⟨k, rfl⟩ : ∃ m, k = m + 1 := ⟨k - 1, by omega⟩
  by_cases h : n < 0
  · rw [if_pos h]; simp only [organonref01_Power.j0]; rw [if_true]
  · rw [if_neg h, decide_eq_true (by omega)]; simp only [organonref01_Power.j0]; rw [if_true]

theorem has_in (s n : Nat) (hs : s < 18446744073709551616) (hn : n ≤ 63) (k : Nat) (hk : 70 ≤ k) : organonref01_Has.f k (s : Int) (n : Int) = some (decide (s / 2 ^ n % 2 = 1)) := by
  unfold organonref01_Has.f
  rw [power_in n hn k hk]
  simp only [some_bind]
  have hp : 0 < 2 ^ n := Nat.two_pow_pos n
  have hq : s / 2 ^ n ≤ s := Nat.div_le_self _ _
  rw [if_neg (by omega), Int.tdiv_eq_ediv_of_nonneg (by omega), ← Int.natCast_ediv]
  generalize s / 2 ^ n = q at *
  rw [u64w_id (by omega) (by omega), Int.tmod_eq_emod_of_nonneg (by omega)]
  congr 1
  rw [Bool.eq_iff_iff, beq_iff_eq, decide_eq_true_iff]
  omega
theorem has_out (s n : Int) (hn : n < 0 ∨ 63 < n) (k : Nat) (hk : 1 ≤ k) : organonref01_Has.f k s n = some false := by
  unfold organonref01_Has.f
  rw [power_out n hn k hk]
  simp only [some_bind, if_true]

theorem ones_tells (x : Nat) (hx : x < 18446744073709551616) : bits_OnesCount64.f (x : Int) = some ((cnt 64 x : Nat) : Int) := by
  obtain ⟨x1, x2, x3, x4, x5, h1, l1, h2, l2, h3, l3, h4, h5, h6⟩ := ones_par x hx
  have c1 : ((6148914691236517205 : Nat) : Int) = 6148914691236517205 := rfl
  have c2 : ((3689348814741910323 : Nat) : Int) = 3689348814741910323 := rfl
  have c3 : ((1085102592571150095 : Nat) : Int) = 1085102592571150095 := rfl
  have E1 : IntKind.u64.wrap (Go.bits .and .u64 ((x : Int) / 2) 6148914691236517205 + Go.bits .and .u64 (x : Int) 6148914691236517205) = (x1 : Int) := by
    have a1 := n64_and (x / 2) 6148914691236517205 (by omega) (by omega)
    have a2 := n64_and x 6148914691236517205 (by omega) (by omega)
    rw [c1] at a1 a2
    rw [show (x : Int) / 2 = ((x / 2 : Nat) : Int) from by omega, a1, a2, u64w_id (by omega) (by omega)]; omega
  have E2 : IntKind.u64.wrap (Go.bits .and .u64 ((x1 : Int) / 4) 3689348814741910323 + Go.bits .and .u64 (x1 : Int) 3689348814741910323) = (x2 : Int) := by
    have a1 := n64_and (x1 / 4) 3689348814741910323 (by omega) (by omega)
    have a2 := n64_and x1 3689348814741910323 (by omega) (by omega)
    rw [c2] at a1 a2
    rw [show (x1 : Int) / 4 = ((x1 / 4 : Nat) : Int) from by omega, a1, a2, u64w_id (by omega) (by omega)]; omega
  have E3 : Go.bits .and .u64 (IntKind.u64.wrap ((x2 : Int) / 16 + (x2 : Int))) 1085102592571150095 = (x3 : Int) := by
    have a1 := n64_and (x2 / 16 + x2) 1085102592571150095 (by omega) (by omega)
    rw [c3] at a1
    rw [u64w_id (by omega) (by omega), show (x2 : Int) / 16 + (x2 : Int) = ((x2 / 16 + x2 : Nat) : Int) from by omega, a1, h3]
  have E4 : IntKind.u64.wrap ((x3 : Int) + (x3 : Int) / 256) = (x4 : Int) := by
    rw [u64w_id (by omega) (by omega)]; omega
  have E5 : IntKind.u64.wrap ((x4 : Int) + (x4 : Int) / 65536) = (x5 : Int) := by
    rw [u64w_id (by omega) (by omega)]; omega
  have E6 : Go.bits .and .i64 (wrap64 (IntKind.u64.wrap ((x5 : Int) + (x5 : Int) / 4294967296))) 127 = ((cnt 64 x : Nat) : Int) := by
    rw [u64w_id (by omega) (by omega), wrap64_id (by omega) (by omega)]
    have h := Go.bits_mask .i64 63 (by decide) (fun n h0 h1 => by rw [i64w]; exact wrap64_id (by omega) (by omega)) 7 (by decide) ((x5 : Int) + (x5 : Int) / 4294967296) (by omega) (by omega)
    rw [show (2 : Int) ^ 7 - 1 = 127 from rfl] at h
    rw [h]; omega
  clear h1 h2 h3 h4 h5 h6
  unfold bits_OnesCount64.f
  rw [E1, E2, E3, E4, E5, E6]
theorem count_tells (x : Nat) (hx : x < 18446744073709551616) : word_Count.f (x : Int) = some ((cnt 64 x : Nat) : Int) := by
  unfold word_Count.f
  rw [ones_tells x hx]; simp only [some_bind]

theorem bit_in (n : Nat) (hn : n ≤ 63) : word_bit.f (n : Int) = some (((2 ^ n : Nat) : Int), true) := by
  unfold word_bit.f
  rw [if_neg (by omega), if_neg (by omega), u64w_id (by omega) (by omega), if_pos (by omega)]
  have := shl_u64 1 n (by omega)
  have hp : 2 ^ n ≤ 2 ^ 63 := Nat.pow_le_pow_right (by decide) hn
  rw [Nat.one_mul, Nat.mod_eq_of_lt (by omega), show ((1 : Nat) : Int) = 1 from rfl] at this
  rw [this]
theorem bit_out (n : Int) (hn : n < 0 ∨ 63 < n) : word_bit.f n = some (0, false) := by
  unfold word_bit.f
  by_cases h : n < 0
  · rw [if_pos h]
  · rw [if_neg h, if_pos (by omega)]

theorem member_in (s n : Nat) (hs : s < 18446744073709551616) (hn : n ≤ 63) : word_Has.f (s : Int) (n : Int) = some (decide (s / 2 ^ n % 2 = 1)) := by
  unfold word_Has.f
  have hp : 2 ^ n ≤ 2 ^ 63 := Nat.pow_le_pow_right (by decide) hn
  rw [bit_in n hn, some_bind]
  simp only []
  rw [if_true, n64_and s (2 ^ n) hs (by omega)]
  have h := and_bit s n
  congr 1
  rw [Bool.eq_iff_iff, bne_iff_ne, decide_eq_true_iff, ← h]
  omega
theorem member_out (s n : Int) (hn : n < 0 ∨ 63 < n) : word_Has.f s n = some false := by
  unfold word_Has.f
  rw [bit_out n hn, some_bind]
  simp only []
  rw [if_neg (by decide)]

theorem ref_list_l0 (s : Nat) (hs : s < 18446744073709551616) (d : Nat) : ∀ (i k : Nat), i + d = 64 → d + 100 < k → organonref01_List.l0 k (s : Int) (lstUp s i) (i : Int) = some (lstUp s 64) := by
  induction d with
  | zero =>
    intro i k h hk
    obtain ⟨k, rfl⟩ : ∃ m, k = m + 1 := ⟨k - 1, by omega⟩
    simp only [organonref01_List.l0]
    rw [if_neg (by omega), show i = 64 from by omega]
  | succ d ih =>
    intro i k h hk
    obtain ⟨k, rfl⟩ : ∃ m, k = m + 1 := ⟨k - 1, by omega⟩
    simp only [organonref01_List.l0]
    have hlen : (lstUp s i).length ≤ 64 := by rw [lstUp_len]; have := cnt_le i s; omega
    have nxt := ih (i + 1) k (by omega) (by omega)
    rw [lstUp_succ s i] at nxt
    rw [if_pos (by omega), has_in s i hs (by omega) k (by omega), some_bind, wrap64_id (by omega) (by omega), show (i : Int) + 1 = ((i + 1 : Nat) : Int) from by omega]
    by_cases hb : s / 2 ^ i % 2 = 1
    · rw [decide_eq_true hb, if_pos rfl, if_pos (by omega)]
      rw [if_pos hb] at nxt
      exact nxt
    · rw [decide_eq_false hb, if_neg (by decide)]
      rw [if_neg hb, List.append_nil] at nxt
      exact nxt
theorem ref_list_tells (s : Nat) (hs : s < 18446744073709551616) (k : Nat) (hk : 200 ≤ k) : organonref01_List.f k (s : Int) = some (lstUp s 64) := by
  unfold organonref01_List.f
  exact ref_list_l0 s hs 64 0 k (by omega) (by omega)

theorem ref_with_in (s n : Nat) (hs : s < 18446744073709551616) (hn : n ≤ 63) (k : Nat) (hk : 100 ≤ k) : organonref01_With.f k (s : Int) (n : Int) = some ((s ||| 2 ^ n : Nat) : Int) := by
  unfold organonref01_With.f
  have hp : 2 ^ n ≤ 2 ^ 63 := Nat.pow_le_pow_right (by decide) hn
  have ho := Nat.or_lt_two_pow (n := 64) (show s < 2 ^ 64 by simpa using hs) (show 2 ^ n < 2 ^ 64 by omega)
  have hb := or_bit s n
  rw [has_in s n hs hn k (by omega), some_bind]
  by_cases h : s / 2 ^ n % 2 = 1
  · rw [decide_eq_true h, if_pos rfl, hb, h]; congr 2; omega
  · have h0 : s / 2 ^ n % 2 = 0 := by have := Nat.mod_two_eq_zero_or_one (s / 2 ^ n); omega
    rw [h0, Nat.zero_mul, Nat.sub_zero] at hb
    rw [decide_eq_false h, if_neg (by decide), power_in n hn k (by omega), some_bind, hb]
    rw [hb] at ho
    rw [u64w_id (by omega) (by omega)]; congr 1

theorem count_same (s : Nat) (hs : s < 18446744073709551616) (k : Nat) (hk : 300 ≤ k) : organonref01_Count.f k (s : Int) = some ((cnt 64 s : Nat) : Int) := by
  unfold organonref01_Count.f
  rw [ref_list_tells s hs k (by omega), some_bind, lstUp_len]
theorem least_same (s : Nat) (hs : s < 18446744073709551616) (k : Nat) (hk : 300 ≤ k) : organonref01_Least.f k (s : Int) = some (if s = 0 then -1 else (Lib.ctz 64 s : Int)) := by
  unfold organonref01_Least.f
  rw [ref_list_tells s hs k (by omega), some_bind]
  by_cases h : s = 0
  · subst h
    rw [lstUp_zero, if_pos rfl]; rfl
  · obtain ⟨l, hl⟩ := ctz_head s hs h
    rw [hl, if_neg (by simp only [List.length_cons]; omega), if_pos (by simp only [List.length_cons]; omega), if_neg h]
    rfl

theorem with_in (s n : Nat) (hs : s < 18446744073709551616) (hn : n ≤ 63) : word_With.f (s : Int) (n : Int) = some ((s ||| 2 ^ n : Nat) : Int) := by
  unfold word_With.f
  have hp : 2 ^ n ≤ 2 ^ 63 := Nat.pow_le_pow_right (by decide) hn
  rw [bit_in n hn, some_bind]
  rw [n64_or s (2 ^ n) hs (by omega)]
theorem without_in (s n : Nat) (hs : s < 18446744073709551616) (hn : n ≤ 63) : word_Without.f (s : Int) (n : Int) = some ((s - s / 2 ^ n % 2 * 2 ^ n : Nat) : Int) := by
  unfold word_Without.f
  have hp : 2 ^ n ≤ 2 ^ 63 := Nat.pow_le_pow_right (by decide) hn
  rw [bit_in n hn, some_bind, u64_andnot s (2 ^ n) hs (by omega), and_not_bit s n hs hn]
theorem ref_without_in (s n : Nat) (hs : s < 18446744073709551616) (hn : n ≤ 63) (k : Nat) (hk : 100 ≤ k) : organonref01_Without.f k (s : Int) (n : Int) = some ((s - s / 2 ^ n % 2 * 2 ^ n : Nat) : Int) := by
  unfold organonref01_Without.f
  have hp : 2 ^ n ≤ 2 ^ 63 := Nat.pow_le_pow_right (by decide) hn
  rw [has_in s n hs hn k (by omega), some_bind]
  by_cases h : s / 2 ^ n % 2 = 1
  · have hle : 2 ^ n ≤ s := by
      rcases Nat.lt_or_ge s (2 ^ n) with h' | h'
      · rw [Nat.div_eq_of_lt h'] at h; simp at h
      · exact h'
    rw [decide_eq_true h, if_pos rfl, power_in n hn k (by omega), some_bind, h, Nat.one_mul]
    generalize 2 ^ n = p at *
    rw [u64w_id (by omega) (by omega)]
    congr 1; omega
  · have h0 : s / 2 ^ n % 2 = 0 := by have := Nat.mod_two_eq_zero_or_one (s / 2 ^ n); omega
    rw [decide_eq_false h, if_neg (by decide), h0, Nat.zero_mul, Nat.sub_zero]
/-- All at once, for the walk. -/
theorem members_tell (s : Nat) (hs : s < 18446744073709551616) (n : Int) (k : Nat) (hk : 300 ≤ k) : ∃ (h : Bool) (u v c : Int), word_Has.f (s : Int) n = some h ∧ organonref01_Has.f k (s : Int) n = some h ∧ word_With.f (s : Int) n = some u ∧ organonref01_With.f k (s : Int) n = some u ∧
    word_Without.f (s : Int) n = some v ∧ organonref01_Without.f k (s : Int) n = some v ∧ word_Count.f (s : Int) = some c ∧ organonref01_Count.f k (s : Int) = some c ∧ organonref01_Least.f k (s : Int) = some (if s = 0 then -1 else (Lib.ctz 64 s : Int)) := by
  by_cases hr : n < 0 ∨ 63 < n
  · refine ⟨false, s, s, (cnt 64 s : Nat), member_out _ _ hr, has_out _ _ hr k (by omega), ?_, ?_, ?_, ?_, count_tells s hs, count_same s hs k hk, least_same s hs k hk⟩
    · unfold word_With.f
      have := n64_or s 0 hs (by omega)
      rw [Nat.or_zero, show ((0 : Nat) : Int) = 0 from rfl] at this
      rw [bit_out n hr, some_bind, this]
    · unfold organonref01_With.f
      rw [has_out _ _ hr k (by omega), some_bind, if_neg (by decide), power_out n hr k (by omega), some_bind, u64w_id (by omega) (by omega), Int.add_zero]
    · unfold word_Without.f
      have := u64_andnot s 0 hs (by omega)
      rw [show (18446744073709551615 : Nat) - 0 = 2 ^ 64 - 1 from by omega, Nat.and_two_pow_sub_one_eq_mod, Nat.mod_eq_of_lt (show s < 2 ^ 64 by simpa using hs), show ((0 : Nat) : Int) = 0 from rfl] at this
      rw [bit_out n hr, some_bind, this]
    · unfold organonref01_Without.f
      rw [has_out _ _ hr k (by omega), some_bind, if_neg (by decide)]
  · obtain ⟨n, rfl⟩ := Int.eq_ofNat_of_zero_le (show 0 ≤ n by omega)
    exact ⟨_, _, _, _, member_in s n hs (by omega), has_in s n hs (by omega) k (by omega), with_in s n hs (by omega), ref_with_in s n hs (by omega) k (by omega), without_in s n hs (by omega), ref_without_in s n hs (by omega) k (by omega), count_tells s hs, count_same s hs k hk, least_same s hs k hk⟩

end Go.Proofs.YtcnhcfmmlonjjaaDoor.Pure
