/- Proved: for all uint64 s and n, WordOwn(s, n) returns true: no condition. -/
import Derived.Test.YtcnhcfmmlonjjaaOWordOwnx2
import Derived.Test.YtcnhcfmmlonjjaaBase
import Derived.Test.YtcnhcfmmlonjjaaRot
import Derived.Test.YtcnhcfmmlonjjaaLst
import Derived.Test.YtcnhcfmmlonjjaaSev
namespace Go.Proofs.Ytcnhcfmmlonjjaa.Pure
open Go.RowKit Go.Proofs.Ytcnhcfmmlonjjaa.PWordOwn Go.Proofs.YtcnhcfmmlonjjaaW.PrintWords Go.Proofs.YtcnhcfmmlonjjaaW.PrintLast Go.Proofs.Ytcnhcfmmlonjjaa.Base Go.Proofs.Ytcnhcfmmlonjjaa.Rot Go.Proofs.Ytcnhcfmmlonjjaa.Lst Go.Proofs.Ytcnhcfmmlonjjaa.Sev
theorem power_l0 (n : Nat) (hn : n ≤ 63) (d : Nat) : ∀ (i k : Nat), i + d = n → d < k → organonref01_Power.l0 k (n : Int) ((2 ^ i : Nat) : Int) (i : Int) = some ((2 ^ n : Nat) : Int) := by
  induction d with
  | zero =>
    intro i k h hk
    obtain ⟨k, rfl⟩ : ∃ m, k = m + 1 := ⟨k - 1, by omega⟩
    simp only [organonref01_Power.l0]
    rw [if_neg (by omega), show i = n from by omega]
  | succ d ih =>
    intro i k h hk
    obtain ⟨k, rfl⟩ : ∃ m, k = m + 1 := ⟨k - 1, by omega⟩
    simp only [organonref01_Power.l0]
    have hp : 2 ^ (i + 1) ≤ 2 ^ 63 := Nat.pow_le_pow_right (by decide) (by omega)
    have hs : 2 ^ (i + 1) = 2 ^ i * 2 := Nat.pow_succ 2 i
    rw [if_pos (by omega), u64w_id (by omega) (by omega), wrap64_id (by omega) (by omega)]
    have := ih (i + 1) k (by omega) (by omega)
    rw [← this]
    congr 1
theorem power_in (n : Nat) (hn : n ≤ 63) (k : Nat) (hk : 70 ≤ k) : organonref01_Power.f k (n : Int) = some ((2 ^ n : Nat) : Int) := by
  unfold organonref01_Power.f
  obtain ⟨k, rfl⟩ : ∃ m, k = m + 1 := ⟨k - 1, by omega⟩
  rw [if_neg (by omega), decide_eq_false (by omega)]
  simp only [organonref01_Power.j0]
  rw [if_neg (by decide)]
  exact power_l0 n hn n 0 k (by omega) (by omega)
theorem power_out (n : Int) (hn : n < 0 ∨ 63 < n) (k : Nat) (hk : 1 ≤ k) : organonref01_Power.f k n = some 0 := by
  unfold organonref01_Power.f
  obtain ⟨k, rfl⟩ : ∃ m, k = m + 1 := ⟨k - 1, by omega⟩
  by_cases h : n < 0
  · rw [if_pos h]; simp only [organonref01_Power.j0]; rw [if_true]
  · rw [if_neg h, decide_eq_true (by omega)]; simp only [organonref01_Power.j0]; rw [if_true]

theorem has_in (s n : Nat) (hs : s < 18446744073709551616) (hn : n ≤ 63) (k : Nat) (hk : 70 ≤ k) : organonref01_Has.f k (s : Int) (n : Int) = some (decide (s / 2 ^ n % 2 = 1)) := by
  unfold organonref01_Has.f
  rw [power_in n hn k hk]
  simp only [some_bind]
  have hp : 0 < 2 ^ n := Nat.two_pow_pos n
  have hq : s / 2 ^ n ≤ s := Nat.div_le_self _ _
  rw [if_neg (by omega), Int.tdiv_eq_ediv_of_nonneg (by omega), ← Int.natCast_ediv]
  generalize s / 2 ^ n = q at *
  rw [u64w_id (by omega) (by omega), Int.tmod_eq_emod_of_nonneg (by omega)]
  congr 1
  rw [Bool.eq_iff_iff, beq_iff_eq, decide_eq_true_iff]
  omega
theorem has_out (s n : Int) (hn : n < 0 ∨ 63 < n) (k : Nat) (hk : 1 ≤ k) : organonref01_Has.f k s n = some false := by
  unfold organonref01_Has.f
  rw [power_out n hn k hk]
  simp only [some_bind, if_true]

theorem list_l0 (s : Nat) (hs : s < 18446744073709551616) (d : Nat) : ∀ (i k : Nat), i + d = 64 → d < k → word_List.l0 k (s : Int) (lstUp s i) (i : Int) = some (lstUp s 64) := by
  induction d with
  | zero =>
    intro i k h hk
    obtain ⟨k, rfl⟩ : ∃ m, k = m + 1 := ⟨k - 1, by omega⟩
    simp only [word_List.l0]
    rw [if_neg (by omega), show i = 64 from by omega]
  | succ d ih =>
    intro i k h hk
    obtain ⟨k, rfl⟩ : ∃ m, k = m + 1 := ⟨k - 1, by omega⟩
    simp only [word_List.l0]
    have hq : s / 2 ^ i ≤ s := Nat.div_le_self _ _
    have hlen : (lstUp s i).length ≤ 64 := by rw [lstUp_len]; have := cnt_le i s; omega
    have nxt := ih (i + 1) k (by omega) (by omega)
    rw [lstUp_succ s i] at nxt
    rw [if_pos (by omega), u64w_id (by omega) (by omega), if_pos (by omega), shr_nat _ _ _ (by simp [IntKind.bits]; omega), wrap64_id (by omega) (by omega), show (i : Int) + 1 = ((i + 1 : Nat) : Int) from by omega]
    generalize s / 2 ^ i = q at *
    rw [u64_and1 _ (by omega) (by omega)]
    by_cases hb : q % 2 = 1
    · rw [if_pos (by omega), if_pos (by omega)]
      rw [if_pos hb] at nxt
      exact nxt
    · rw [if_neg (by omega)]
      rw [if_neg hb, List.append_nil] at nxt
      exact nxt
theorem list_tells (s : Nat) (hs : s < 18446744073709551616) (k : Nat) (hk : 70 ≤ k) : word_List.f k (s : Int) = some (lstUp s 64) := by
  unfold word_List.f
  exact list_l0 s hs 64 0 k (by omega) (by omega)

theorem ref_list_l0 (s : Nat) (hs : s < 18446744073709551616) (d : Nat) : ∀ (i k : Nat), i + d = 64 → d + 100 < k → organonref01_List.l0 k (s : Int) (lstUp s i) (i : Int) = some (lstUp s 64) := by
  induction d with
  | zero =>
    intro i k h hk
    obtain ⟨k, rfl⟩ : ∃ m, k = m + 1 := ⟨k - 1, by omega⟩
    simp only [organonref01_List.l0]
    rw [if_neg (by omega), show i = 64 from by omega]
  | succ d ih =>
    intro i k h hk
    obtain ⟨k, rfl⟩ : ∃ m, k = m + 1 := ⟨k - 1, by omega⟩
    simp only [organonref01_List.l0]
    have hlen : (lstUp s i).length ≤ 64 := by rw [lstUp_len]; have := cnt_le i s; omega
    have nxt := ih (i + 1) k (by omega) (by omega)
    rw [lstUp_succ s i] at nxt
    rw [if_pos (by omega), has_in s i hs (by omega) k (by omega), some_bind, wrap64_id (by omega) (by omega), show (i : Int) + 1 = ((i + 1 : Nat) : Int) from by omega]
    by_cases hb : s / 2 ^ i % 2 = 1
    · rw [decide_eq_true hb, if_pos rfl, if_pos (by omega)]
      rw [if_pos hb] at nxt
      exact nxt
    · rw [decide_eq_false hb, if_neg (by decide)]
      rw [if_neg hb, List.append_nil] at nxt
      exact nxt
theorem ref_list_tells (s : Nat) (hs : s < 18446744073709551616) (k : Nat) (hk : 200 ≤ k) : organonref01_List.f k (s : Int) = some (lstUp s 64) := by
  unfold organonref01_List.f
  exact ref_list_l0 s hs 64 0 k (by omega) (by omega)

theorem rd_nat (xs : List Int) (i : Nat) (h : i < xs.length) : rd xs (i : Int) = xs[i] := by
  unfold rd
  rw [show ((i : Int)).toNat = i from by omega, List.getD_eq_getElem?_getD, List.getElem?_eq_getElem h]; rfl
theorem take_snoc (xs : List Int) (i : Nat) (h : i < xs.length) : xs.take (i + 1) = xs.take i ++ [xs[i]] := by
  rw [List.take_succ_eq_append_getElem h]

theorem same_ints_l0 (l : List Int) (hl : l.length ≤ 140737488355320) (d : Nat) : ∀ (i k : Nat), i + d = l.length → d < k → organonlaw01_sameInts.l0 k l l (l.length : Int) (i : Int) = some true := by
  induction d with
  | zero =>
    intro i k h hk
    obtain ⟨k, rfl⟩ : ∃ m, k = m + 1 := ⟨k - 1, by omega⟩
    simp only [organonlaw01_sameInts.l0]
    rw [if_neg (by omega)]
  | succ d ih =>
    intro i k h hk
    obtain ⟨k, rfl⟩ : ∃ m, k = m + 1 := ⟨k - 1, by omega⟩
    simp only [organonlaw01_sameInts.l0]
    rw [if_pos (by omega), if_pos (by omega), if_pos (by omega), if_pos (by omega), if_true, wrap64_id (by omega) (by omega), show (i : Int) + 1 = ((i + 1 : Nat) : Int) from by omega]
    exact ih (i + 1) k (by omega) (by omega)
theorem same_ints_self (l : List Int) (hl : l.length ≤ 140737488355320) (k : Nat) (hk : l.length < k) : organonlaw01_sameInts.f k l l = some true := by
  unfold organonlaw01_sameInts.f
  rw [if_pos rfl]
  exact same_ints_l0 l hl l.length 0 k (by omega) hk

theorem or128_facts : ∀ b, b < 256 → b ||| 128 = b % 128 + 128 := by decide +kernel
theorem u8_or128' (b : Nat) (hb : b < 256) : Go.bits .or .u8 (b : Int) 128 = ((b % 128 + 128 : Nat) : Int) := by
  have h := (Go.bits_nat .u8 8 (by decide) (fun n h0 h1 => by rw [Go.IntKind.wrap_u8]; omega) b 128 (by omega) (by decide)).2
  rw [show ((128 : Nat) : Int) = 128 from rfl] at h
  rw [h, or128_facts b hb]
theorem put_l0 (f : Nat) : ∀ (n : Nat) (acc : List Int) (k : Nat), n < 128 ^ (f + 1) → acc.length + f ≤ 20 → f < k → word_Put.l0 k (n : Int) acc = some (acc ++ sev n) := by
  induction f with
  | zero =>
    intro n acc k h ha hk
    obtain ⟨k, rfl⟩ : ∃ m, k = m + 1 := ⟨k - 1, by omega⟩
    have hs : n < 128 := by simpa using h
    simp only [word_Put.l0]
    rw [if_neg (by omega), if_pos (by omega), sev_small hs, show (n : Int) % 256 = (n : Int) from by omega]
  | succ f ih =>
    intro n acc k h ha hk
    obtain ⟨k, rfl⟩ : ∃ m, k = m + 1 := ⟨k - 1, by omega⟩
    simp only [word_Put.l0]
    by_cases hs : n < 128
    · rw [if_neg (by omega), if_pos (by omega), sev_small hs, show (n : Int) % 256 = (n : Int) from by omega]
    · have hl : n / 128 < 128 ^ (f + 1) := by rw [Nat.div_lt_iff_lt_mul (by decide), ← Nat.pow_succ]; exact h
      rw [if_pos (by omega), if_pos (by omega), show (n : Int) % 256 = ((n % 256 : Nat) : Int) from by omega, u8_or128' _ (by omega), show (n : Int) / 128 = ((n / 128 : Nat) : Int) from by omega, ih _ _ k hl (by simp; omega) (by omega), sev_big hs, show n % 256 % 128 = n % 128 from by omega]
      rw [List.append_assoc, List.singleton_append]
theorem put_tells (n : Nat) (h : n < 18446744073709551616) (k : Nat) (hk : 20 ≤ k) : word_Put.f k (n : Int) = some (sev n) := by
  unfold word_Put.f
  exact put_l0 9 n [] k (Nat.lt_of_lt_of_le h (by decide)) (by simp) (by omega)

theorem ref_put_l0 (f : Nat) : ∀ (n : Nat) (acc : List Int) (k : Nat), n < 128 ^ (f + 1) → n < 18446744073709551616 → acc.length + f ≤ 20 → f < k → organonref01_Put.l0 k (n : Int) acc = some (acc ++ sev n) := by
  induction f with
  | zero =>
    intro n acc k h _ ha hk
    obtain ⟨k, rfl⟩ : ∃ m, k = m + 1 := ⟨k - 1, by omega⟩
    have hs : n < 128 := by simpa using h
    simp only [organonref01_Put.l0]
    rw [if_neg (by omega), if_pos (by omega), sev_small hs, show (n : Int) % 256 = (n : Int) from by omega]
  | succ f ih =>
    intro n acc k h hn ha hk
    obtain ⟨k, rfl⟩ : ∃ m, k = m + 1 := ⟨k - 1, by omega⟩
    simp only [organonref01_Put.l0]
    by_cases hs : n < 128
    · rw [if_neg (by omega), if_pos (by omega), sev_small hs, show (n : Int) % 256 = (n : Int) from by omega]
    · have hl : n / 128 < 128 ^ (f + 1) := by rw [Nat.div_lt_iff_lt_mul (by decide), ← Nat.pow_succ]; exact h
      rw [if_pos (by omega), if_pos (by omega), Int.tdiv_eq_ediv_of_nonneg (by omega), Int.tmod_eq_emod_of_nonneg (by omega), u64w_id (by omega) (by omega), u64w_id (by omega) (by omega), show (n : Int) / 128 = ((n / 128 : Nat) : Int) from by omega, ih _ _ k hl (by omega) (by simp; omega) (by omega), sev_big hs]
      rw [List.append_assoc, List.singleton_append, show ((n : Int) % 128 + 128) % 256 = ((n % 128 + 128 : Nat) : Int) from by omega]
theorem ref_put_tells (n : Nat) (h : n < 18446744073709551616) (k : Nat) (hk : 20 ≤ k) : organonref01_Put.f k (n : Int) = some (sev n) := by
  unfold organonref01_Put.f
  exact ref_put_l0 9 n [] k (Nat.lt_of_lt_of_le h (by decide)) h (by simp) (by omega)

theorem own_l1 (s n : Nat) (hs : s < 18446744073709551616) (hn : n < 18446744073709551616) (x5 : List Int) (h5 : 0 < x5.length) (m : Nat) (hm : m ≤ 20) (d : Nat) : ∀ (x8 : List Int) (i k : Nat), x8.length = m → i + d = m → d + 400 < k →
    organonlaw01_WordOwn.l1 k (s : Int) (n : Int) x5 (lstUp s 64) x8 (sev n) (m : Int) (i : Int) = some true := by
  have hlen : (lstUp s 64).length ≤ 64 := by rw [lstUp_len]; exact cnt_le 64 s
  induction d with
  | zero =>
    intro x8 i k h8 h hk
    obtain ⟨k, rfl⟩ : ∃ m, k = m + 1 := ⟨k - 1, by omega⟩
    simp only [organonlaw01_WordOwn.l1]
    rw [if_neg (by omega), if_pos (by omega), ref_list_tells s hs k (by omega), some_bind, same_ints_self _ (by omega) k (by omega), some_bind, if_pos rfl, list_tells s hs k (by omega), some_bind, same_ints_self _ (by omega) k (by omega), some_bind, if_pos rfl, ref_put_tells n hn k (by omega), some_bind]
    unfold organonlaw01_sameBytes.f
    rw [some_bind, if_pos (beq_self_eq_true _), put_tells n hn k (by omega), some_bind, some_bind, beq_self_eq_true]
  | succ d ih =>
    intro x8 i k h8 h hk
    obtain ⟨k, rfl⟩ : ∃ m, k = m + 1 := ⟨k - 1, by omega⟩
    simp only [organonlaw01_WordOwn.l1]
    rw [if_pos (by omega), if_pos (by omega), if_pos (by omega), wrap64_id (by omega) (by omega), show (i : Int) + 1 = ((i + 1 : Nat) : Int) from by omega]
    exact ih _ (i + 1) k (by rw [List.length_set]; exact h8) (by omega) (by omega)
theorem own_l0 (s n : Nat) (hs : s < 18446744073709551616) (hn : n < 18446744073709551616) (m : Nat) (hm : m ≤ 64) (d : Nat) : ∀ (x5 : List Int) (i k : Nat), x5.length = m → i + d = m → d + 1000 < k →
    organonlaw01_WordOwn.l0 k (s : Int) (n : Int) x5 (lstUp s 64) (m : Int) (i : Int) = some true := by
  induction d with
  | zero =>
    intro x5 i k h8 h hk
    obtain ⟨k, rfl⟩ : ∃ m, k = m + 1 := ⟨k - 1, by omega⟩
    simp only [organonlaw01_WordOwn.l0]
    have hl := sev_len10 n hn
    rw [if_neg (by omega), if_pos (by omega), put_tells n hn k (by omega), some_bind, some_bind]
    exact own_l1 s n hs hn (x5 ++ [7]) (by simp) (sev n).length (by omega) (sev n).length (sev n) 0 k rfl (by omega) (by omega)
  | succ d ih =>
    intro x5 i k h8 h hk
    obtain ⟨k, rfl⟩ : ∃ m, k = m + 1 := ⟨k - 1, by omega⟩
    simp only [organonlaw01_WordOwn.l0]
    rw [if_pos (by omega), if_pos (by omega), if_pos (by omega), wrap64_id (by omega) (by omega), show (i : Int) + 1 = ((i + 1 : Nat) : Int) from by omega]
    exact ih _ (i + 1) k (by rw [List.length_set]; exact h8) (by omega) (by omega)
theorem WordOwn : organonlaw01_WordOwn.Pure := by
  intro s n ws wn
  obtain ⟨a0, a1⟩ := wf_u64 ws
  obtain ⟨b0, b1⟩ := wf_u64 wn
  obtain ⟨s, rfl⟩ := Int.eq_ofNat_of_zero_le a0
  obtain ⟨n, rfl⟩ := Int.eq_ofNat_of_zero_le b0
  obtain ⟨K, hK⟩ : ∃ K : Nat, 2000 ≤ K := ⟨_, Nat.le_refl _⟩
  refine ⟨K, ?_⟩
  unfold organonlaw01_WordOwn.f
  have hlen : (lstUp s 64).length ≤ 64 := by rw [lstUp_len]; exact cnt_le 64 s
  rw [list_tells s (by omega) K (by omega), some_bind, some_bind]
  exact own_l0 s n (by omega) (by omega) (lstUp s 64).length hlen (lstUp s 64).length (lstUp s 64) 0 K rfl (by omega) (by omega)

end Go.Proofs.Ytcnhcfmmlonjjaa.Pure
