/- Plain: what the functions that WordSets calls tell, of every list of numbers. -/
import Derived.Test.YtcnhcfmmlonjjaaDoorPWordSetsx0
import Derived.Test.YtcnhcfmmlonjjaaDoorPWordSetsx1
import Derived.Test.YtcnhcfmmlonjjaaDoorPWordSetsx2
import Derived.Test.YtcnhcfmmlonjjaaDoorBase
import Derived.Test.YtcnhcfmmlonjjaaDoorRot
import Derived.Test.YtcnhcfmmlonjjaaDoorLst
import Derived.Test.YtcnhcfmmlonjjaaDoorBit
namespace Go.Proofs.YtcnhcfmmlonjjaaDoor.Pure
open Go.RowKit Go.Proofs.YtcnhcfmmlonjjaaDoor.PWordSets Go.Proofs.YtcnhcfmmlonjjaaDoorW.PrintWords Go.Proofs.YtcnhcfmmlonjjaaDoorW.PrintLast Go.Proofs.YtcnhcfmmlonjjaaDoor.Base Go.Proofs.YtcnhcfmmlonjjaaDoor.Rot Go.Proofs.YtcnhcfmmlonjjaaDoor.Lst Go.Proofs.YtcnhcfmmlonjjaaDoor.Bit
theorem power_l0 (n : Nat) (hn : n ≤ 63) (d : Nat) : ∀ (i k : Nat), i + d = n → d < k → organonref01_Power.l0 k (n : Int) ((2 ^ i : Nat) : Int) (i : Int) = some ((2 ^ n : Nat) : Int) := by
  induction d with
  | zero =>
    intro i k h hk
    obtain ⟨k, rfl⟩ : ∃ m, k = m + 1 := ⟨k - 1, by omega⟩
    simp only [organonref01_Power.l0]
    rw [if_neg (by omega), show i = n from by omega]
  | succ d ih =>
    intro i k h hk
    obtain ⟨k, rfl⟩ : ∃ m, k = m + 1 := ⟨k - 1, by omega⟩
    simp only [organonref01_Power.l0]
    have hp : 2 ^ (i + 1) ≤ 2 ^ 63 := Nat.pow_le_pow_right (by decide) (by omega)
    have hs : 2 ^ (i + 1) = 2 ^ i * 2 := Nat.pow_succ 2 i
    rw [if_pos (by omega), u64w_id (by omega) (by omega), wrap64_id (by omega) (by omega)]
    have := ih (i + 1) k (by omega) (by omega)
    rw [← this]
    congr 1
theorem power_in (n : Nat) (hn : n ≤ 63) (k : Nat) (hk : 70 ≤ k) : organonref01_Power.f k (n : Int) = some ((2 ^ n : Nat) : Int) := by
  unfold organonref01_Power.f
  obtain ⟨k, rfl⟩ : ∃ m, k = m + 1 := ⟨k - 1, by omega⟩
  rw [if_neg (by omega), decide_eq_false (by omega)]
  simp only [organonref01_Power.j0]
  rw [if_neg (by decide)]
  exact power_l0 n hn n 0 k (by omega) (by omega)
theorem power_out (n : Int) (hn : n < 0 ∨ 63 < n) (k : Nat) (hk : 1 ≤ k) : organonref01_Power.f k n = some 0 := by
  unfold organonref01_Power.f
  obtain ⟨k, rfl⟩ : ∃ m, k = m + 1 := ⟨k - 1, by omega⟩
  by_cases h : n < 0
  · rw [if_pos h]; simp only [organonref01_Power.j0]; rw [if_true]
  · rw [if_neg h, decide_eq_true (by omega)]; simp only [organonref01_Power.j0]; rw [if_true]

theorem has_in (s n : Nat) (hs : s < 18446744073709551616) (hn : n ≤ 63) (k : Nat) (hk : 70 ≤ k) : organonref01_Has.f k (s : Int) (n : Int) = some (decide (s / 2 ^ n % 2 = 1)) := by
  unfold organonref01_Has.f
  rw [power_in n hn k hk]
  simp only [some_bind]
  have hp : 0 < 2 ^ n := Nat.two_pow_pos n
  have hq : s / 2 ^ n ≤ s := Nat.div_le_self _ _
  rw [if_neg (by omega), Int.tdiv_eq_ediv_of_nonneg (by omega), ← Int.natCast_ediv]
  generalize s / 2 ^ n = q at *
  rw [u64w_id (by omega) (by omega), Int.tmod_eq_emod_of_nonneg (by omega)]
  congr 1
  rw [Bool.eq_iff_iff, beq_iff_eq, decide_eq_true_iff]
  omega
theorem has_out (s n : Int) (hn : n < 0 ∨ 63 < n) (k : Nat) (hk : 1 ≤ k) : organonref01_Has.f k s n = some false := by
  unfold organonref01_Has.f
  rw [power_out n hn k hk]
  simp only [some_bind, if_true]

theorem ones_tells (x : Nat) (hx : x < 18446744073709551616) : bits_OnesCount64.f (x : Int) = some ((cnt 64 x : Nat) : Int) := by
  obtain ⟨x1, x2, x3, x4, x5, h1, l1, h2, l2, h3, l3, h4, h5, h6⟩ := ones_par x hx
  have c1 : ((6148914691236517205 : Nat) : Int) = 6148914691236517205 := rfl
  have c2 : ((3689348814741910323 : Nat) : Int) = 3689348814741910323 := rfl
  have c3 : ((1085102592571150095 : Nat) : Int) = 1085102592571150095 := rfl
  have E1 : IntKind.u64.wrap (Go.bits .and .u64 ((x : Int) / 2) 6148914691236517205 + Go.bits .and .u64 (x : Int) 6148914691236517205) = (x1 : Int) := by
    have a1 := n64_and (x / 2) 6148914691236517205 (by omega) (by omega)
    have a2 := n64_and x 6148914691236517205 (by omega) (by omega)
    rw [c1] at a1 a2
    rw [show (x : Int) / 2 = ((x / 2 : Nat) : Int) from by omega, a1, a2, u64w_id (by omega) (by omega)]; omega
  have E2 : IntKind.u64.wrap (Go.bits .and .u64 ((x1 : Int) / 4) 3689348814741910323 + Go.bits .and .u64 (x1 : Int) 3689348814741910323) = (x2 : Int) := by
    have a1 := n64_and (x1 / 4) 3689348814741910323 (by omega) (by omega)
    have a2 := n64_and x1 3689348814741910323 (by omega) (by omega)
    rw [c2] at a1 a2
    rw [show (x1 : Int) / 4 = ((x1 / 4 : Nat) : Int) from by omega, a1, a2, u64w_id (by omega) (by omega)]; omega
  have E3 : Go.bits .and .u64 (IntKind.u64.wrap ((x2 : Int) / 16 + (x2 : Int))) 1085102592571150095 = (x3 : Int) := by
    have a1 := n64_and (x2 / 16 + x2) 1085102592571150095 (by omega) (by omega)
    rw [c3] at a1
    rw [u64w_id (by omega) (by omega), show (x2 : Int) / 16 + (x2 : Int) = ((x2 / 16 + x2 : Nat) : Int) from by omega, a1, h3]
  have E4 : IntKind.u64.wrap ((x3 : Int) + (x3 : Int) / 256) = (x4 : Int) := by
    rw [u64w_id (by omega) (by omega)]; omega
  have E5 : IntKind.u64.wrap ((x4 : Int) + (x4 : Int) / 65536) = (x5 : Int) := by
    rw [u64w_id (by omega) (by omega)]; omega
  have E6 : Go.bits .and .i64 (wrap64 (IntKind.u64.wrap ((x5 : Int) + (x5 : Int) / 4294967296))) 127 = ((cnt 64 x : Nat) : Int) := by
    rw [u64w_id (by omega) (by omega), wrap64_id (by omega) (by omega)]
    have h := Go.bits_mask .i64 63 (by decide) (fun n h0 h1 => by rw [i64w]; exact wrap64_id (by omega) (by omega)) 7 (by decide) ((x5 : Int) + (x5 : Int) / 4294967296) (by omega) (by omega)
    rw [show (2 : Int) ^ 7 - 1 = 127 from rfl] at h
    rw [h]; omega
  clear h1 h2 h3 h4 h5 h6
  unfold bits_OnesCount64.f
  rw [E1, E2, E3, E4, E5, E6]
theorem count_tells (x : Nat) (hx : x < 18446744073709551616) : word_Count.f (x : Int) = some ((cnt 64 x : Nat) : Int) := by
  unfold word_Count.f
  rw [ones_tells x hx]; simp only [some_bind]

theorem bit_in (n : Nat) (hn : n ≤ 63) : word_bit.f (n : Int) = some (((2 ^ n : Nat) : Int), true) := by
  unfold word_bit.f
  rw [if_neg (by omega), if_neg (by omega), u64w_id (by omega) (by omega), if_pos (by omega)]
  have := shl_u64 1 n (by omega)
  have hp : 2 ^ n ≤ 2 ^ 63 := Nat.pow_le_pow_right (by decide) hn
  rw [Nat.one_mul, Nat.mod_eq_of_lt (by omega), show ((1 : Nat) : Int) = 1 from rfl] at this
  rw [this]
theorem bit_out (n : Int) (hn : n < 0 ∨ 63 < n) : word_bit.f n = some (0, false) := by
  unfold word_bit.f
  by_cases h : n < 0
  · rw [if_pos h]
  · rw [if_neg h, if_pos (by omega)]

theorem list_l0 (s : Nat) (hs : s < 18446744073709551616) (d : Nat) : ∀ (i k : Nat), i + d = 64 → d < k → word_List.l0 k (s : Int) (lstUp s i) (i : Int) = some (lstUp s 64) := by
  induction d with
  | zero =>
    intro i k h hk
    obtain ⟨k, rfl⟩ : ∃ m, k = m + 1 := ⟨k - 1, by omega⟩
    simp only [word_List.l0]
    rw [if_neg (by omega), show i = 64 from by omega]
  | succ d ih =>
    intro i k h hk
    obtain ⟨k, rfl⟩ : ∃ m, k = m + 1 := ⟨k - 1, by omega⟩
    simp only [word_List.l0]
    have hq : s / 2 ^ i ≤ s := Nat.div_le_self _ _
    have hlen : (lstUp s i).length ≤ 64 := by rw [lstUp_len]; have := cnt_le i s; omega
    have nxt := ih (i + 1) k (by omega) (by omega)
    rw [lstUp_succ s i] at nxt
    rw [if_pos (by omega), u64w_id (by omega) (by omega), if_pos (by omega), shr_nat _ _ _ (by simp [IntKind.bits]; omega), wrap64_id (by omega) (by omega), show (i : Int) + 1 = ((i + 1 : Nat) : Int) from by omega]
    generalize s / 2 ^ i = q at *
    rw [u64_and1 _ (by omega) (by omega)]
    by_cases hb : q % 2 = 1
    · rw [if_pos (by omega), if_pos (by omega)]
      rw [if_pos hb] at nxt
      exact nxt
    · rw [if_neg (by omega)]
      rw [if_neg hb, List.append_nil] at nxt
      exact nxt
theorem list_tells (s : Nat) (hs : s < 18446744073709551616) (k : Nat) (hk : 70 ≤ k) : word_List.f k (s : Int) = some (lstUp s 64) := by
  unfold word_List.f
  exact list_l0 s hs 64 0 k (by omega) (by omega)

theorem ref_list_l0 (s : Nat) (hs : s < 18446744073709551616) (d : Nat) : ∀ (i k : Nat), i + d = 64 → d + 100 < k → organonref01_List.l0 k (s : Int) (lstUp s i) (i : Int) = some (lstUp s 64) := by
  induction d with
  | zero =>
    intro i k h hk
    obtain ⟨k, rfl⟩ : ∃ m, k = m + 1 := ⟨k - 1, by omega⟩
    simp only [organonref01_List.l0]
    rw [if_neg (by omega), show i = 64 from by omega]
  | succ d ih =>
    intro i k h hk
    obtain ⟨k, rfl⟩ : ∃ m, k = m + 1 := ⟨k - 1, by omega⟩
    simp only [organonref01_List.l0]
    have hlen : (lstUp s i).length ≤ 64 := by rw [lstUp_len]; have := cnt_le i s; omega
    have nxt := ih (i + 1) k (by omega) (by omega)
    rw [lstUp_succ s i] at nxt
    rw [if_pos (by omega), has_in s i hs (by omega) k (by omega), some_bind, wrap64_id (by omega) (by omega), show (i : Int) + 1 = ((i + 1 : Nat) : Int) from by omega]
    by_cases hb : s / 2 ^ i % 2 = 1
    · rw [decide_eq_true hb, if_pos rfl, if_pos (by omega)]
      rw [if_pos hb] at nxt
      exact nxt
    · rw [decide_eq_false hb, if_neg (by decide)]
      rw [if_neg hb, List.append_nil] at nxt
      exact nxt
theorem ref_list_tells (s : Nat) (hs : s < 18446744073709551616) (k : Nat) (hk : 200 ≤ k) : organonref01_List.f k (s : Int) = some (lstUp s 64) := by
  unfold organonref01_List.f
  exact ref_list_l0 s hs 64 0 k (by omega) (by omega)

theorem ref_with_in (s n : Nat) (hs : s < 18446744073709551616) (hn : n ≤ 63) (k : Nat) (hk : 100 ≤ k) : organonref01_With.f k (s : Int) (n : Int) = some ((s ||| 2 ^ n : Nat) : Int) := by
  unfold organonref01_With.f
  have hp : 2 ^ n ≤ 2 ^ 63 := Nat.pow_le_pow_right (by decide) hn
  have ho := Nat.or_lt_two_pow (n := 64) (show s < 2 ^ 64 by simpa using hs) (show 2 ^ n < 2 ^ 64 by omega)
  have hb := or_bit s n
  rw [has_in s n hs hn k (by omega), some_bind]
  by_cases h : s / 2 ^ n % 2 = 1
  · rw [decide_eq_true h, if_pos rfl, hb, h]; congr 2; omega
  · have h0 : s / 2 ^ n % 2 = 0 := by have := Nat.mod_two_eq_zero_or_one (s / 2 ^ n); omega
    rw [h0, Nat.zero_mul, Nat.sub_zero] at hb
    rw [decide_eq_false h, if_neg (by decide), power_in n hn k (by omega), some_bind, hb]
    rw [hb] at ho
    rw [u64w_id (by omega) (by omega)]; congr 1

theorem count_same (s : Nat) (hs : s < 18446744073709551616) (k : Nat) (hk : 300 ≤ k) : organonref01_Count.f k (s : Int) = some ((cnt 64 s : Nat) : Int) := by
  unfold organonref01_Count.f
  rw [ref_list_tells s hs k (by omega), some_bind, lstUp_len]
theorem least_same (s : Nat) (hs : s < 18446744073709551616) (k : Nat) (hk : 300 ≤ k) : organonref01_Least.f k (s : Int) = some (if s = 0 then -1 else (Lib.ctz 64 s : Int)) := by
  unfold organonref01_Least.f
  rw [ref_list_tells s hs k (by omega), some_bind]
  by_cases h : s = 0
  · subst h
    rw [lstUp_zero, if_pos rfl]; rfl
  · obtain ⟨l, hl⟩ := ctz_head s hs h
    rw [hl, if_neg (by simp only [List.length_cons]; omega), if_pos (by simp only [List.length_cons]; omega), if_neg h]
    rfl

theorem rd_nat (xs : List Int) (i : Nat) (h : i < xs.length) : rd xs (i : Int) = xs[i] := by
  unfold rd
  rw [show ((i : Int)).toNat = i from by omega, List.getD_eq_getElem?_getD, List.getElem?_eq_getElem h]; rfl
theorem take_snoc (xs : List Int) (i : Nat) (h : i < xs.length) : xs.take (i + 1) = xs.take i ++ [xs[i]] := by
  rw [List.take_succ_eq_append_getElem h]

theorem same_ints_l0 (l : List Int) (hl : l.length ≤ 140737488355320) (d : Nat) : ∀ (i k : Nat), i + d = l.length → d < k → organonlaw01_sameInts.l0 k l l (l.length : Int) (i : Int) = some true := by
  induction d with
  | zero =>
    intro i k h hk
    obtain ⟨k, rfl⟩ : ∃ m, k = m + 1 := ⟨k - 1, by omega⟩
    simp only [organonlaw01_sameInts.l0]
    rw [if_neg (by omega)]
  | succ d ih =>
    intro i k h hk
    obtain ⟨k, rfl⟩ : ∃ m, k = m + 1 := ⟨k - 1, by omega⟩
    simp only [organonlaw01_sameInts.l0]
    rw [if_pos (by omega), if_pos (by omega), if_pos (by omega), if_pos (by omega), if_true, wrap64_id (by omega) (by omega), show (i : Int) + 1 = ((i + 1 : Nat) : Int) from by omega]
    exact ih (i + 1) k (by omega) (by omega)
theorem same_ints_self (l : List Int) (hl : l.length ≤ 140737488355320) (k : Nat) (hk : l.length < k) : organonlaw01_sameInts.f k l l = some true := by
  unfold organonlaw01_sameInts.f
  rw [if_pos rfl]
  exact same_ints_l0 l hl l.length 0 k (by omega) hk

/-- The set of a list, put into a word: the word, and whether a number was refused. -/
def setS : List Int → Nat → Nat × Int
  | [], a => (a, 0)
  | c :: l, a => if c < 0 ∨ 63 < c then (0, 1) else setS l (a ||| 2 ^ c.toNat)
theorem setS_lt : ∀ (l : List Int) (a : Nat), a < 18446744073709551616 → (setS l a).1 < 18446744073709551616
  | [], a, h => h
  | c :: l, a, h => by
    simp only [setS]
    split
    · decide
    · have hp : 2 ^ c.toNat ≤ 2 ^ 63 := Nat.pow_le_pow_right (by decide) (by omega)
      have ho := Nat.or_lt_two_pow (n := 64) (show a < 2 ^ 64 by simpa using h) (show 2 ^ c.toNat < 2 ^ 64 by omega)
      exact setS_lt l _ (by simpa using ho)
theorem set_any (l : List Int) (hl : l.length ≤ 140737488355320) : ∀ (rest : List Int) (i a k : Nat), l.drop i = rest → a < 18446744073709551616 → rest.length < k →
    word_Set.l0 k (a : Int) l (l.length : Int) (i : Int) = some (((setS rest a).1 : Int), (setS rest a).2)
  | [], i, a, k, hd, ha, hk => by
    obtain ⟨k, rfl⟩ : ∃ m, k = m + 1 := ⟨k - 1, by omega⟩
    have : l.length ≤ i := by simpa using hd
    simp only [word_Set.l0]
    rw [if_neg (by omega)]; rfl
  | c :: rest, i, a, k, hd, ha, hk => by
    obtain ⟨k, rfl⟩ : ∃ m, k = m + 1 := ⟨k - 1, by omega⟩
    have hi : i < l.length := by
      rcases Nat.lt_or_ge i l.length with h' | h'
      · exact h'
      · rw [List.drop_eq_nil_of_le h'] at hd; cases hd
    rw [List.drop_eq_getElem_cons hi] at hd
    injection hd with h1 h2
    simp only [word_Set.l0, setS]
    simp only [List.length_cons] at hk
    rw [if_pos (by omega), if_pos (by omega), if_pos (by omega), rd_nat l i hi, h1]
    by_cases hr : c < 0 ∨ 63 < c
    · rw [bit_out c hr, some_bind, if_pos hr]; rfl
    · obtain ⟨c, rfl⟩ := Int.eq_ofNat_of_zero_le (show 0 ≤ c by omega)
      have hp : 2 ^ c ≤ 2 ^ 63 := Nat.pow_le_pow_right (by decide) (by omega)
      have ho := Nat.or_lt_two_pow (n := 64) (show a < 2 ^ 64 by simpa using ha) (show 2 ^ c < 2 ^ 64 by omega)
      rw [bit_in c (by omega), some_bind, if_neg hr]
      simp only []
      rw [if_true, n64_or a (2 ^ c) ha (by omega), wrap64_id (by omega) (by omega), show (i : Int) + 1 = ((i + 1 : Nat) : Int) from by omega, show ((c : Int)).toNat = c from by omega]
      exact set_any l hl rest (i + 1) (a ||| 2 ^ c) k h2 (by simpa using ho) (by omega)
theorem ref_set_any (l : List Int) (hl : l.length ≤ 140737488355320) : ∀ (rest : List Int) (i a k : Nat), l.drop i = rest → a < 18446744073709551616 → rest.length + 200 < k →
    organonref01_Set.l0 k (a : Int) l (l.length : Int) (i : Int) = some (((setS rest a).1 : Int), (setS rest a).2)
  | [], i, a, k, hd, ha, hk => by
    obtain ⟨k, rfl⟩ : ∃ m, k = m + 1 := ⟨k - 1, by omega⟩
    have : l.length ≤ i := by simpa using hd
    simp only [organonref01_Set.l0]
    rw [if_neg (by omega)]; rfl
  | c :: rest, i, a, k, hd, ha, hk => by
    obtain ⟨k, rfl⟩ : ∃ m, k = m + 1 := ⟨k - 1, by omega⟩
    have hi : i < l.length := by
      rcases Nat.lt_or_ge i l.length with h' | h'
      · exact h'
      · rw [List.drop_eq_nil_of_le h'] at hd; cases hd
    rw [List.drop_eq_getElem_cons hi] at hd
    injection hd with h1 h2
    simp only [organonref01_Set.l0, setS]
    simp only [List.length_cons] at hk
    rw [if_pos (by omega), if_pos (by omega), if_pos (by omega), rd_nat l i hi, h1]
    by_cases hr : c < 0 ∨ 63 < c
    · rw [if_pos hr]
      by_cases h0 : c < 0
      · rw [if_pos h0]; rfl
      · rw [if_neg h0, if_pos (by omega)]; rfl
    · obtain ⟨c, rfl⟩ := Int.eq_ofNat_of_zero_le (show 0 ≤ c by omega)
      have hp : 2 ^ c ≤ 2 ^ 63 := Nat.pow_le_pow_right (by decide) (by omega)
      have ho := Nat.or_lt_two_pow (n := 64) (show a < 2 ^ 64 by simpa using ha) (show 2 ^ c < 2 ^ 64 by omega)
      rw [if_neg hr, if_neg (by omega), if_neg (by omega), ref_with_in a c ha (by omega) k (by omega), some_bind, wrap64_id (by omega) (by omega), show (i : Int) + 1 = ((i + 1 : Nat) : Int) from by omega, show ((c : Int)).toNat = c from by omega]
      exact ref_set_any l hl rest (i + 1) (a ||| 2 ^ c) k h2 (by simpa using ho) (by omega)
/-- All at once, for the walk. -/
theorem sets_tell (l : List Int) (hl : l.length ≤ 140737488355320) (k : Nat) (hk : l.length + 400 ≤ k) : ∃ (x : Nat) (er c : Int) (L : List Int), x < 18446744073709551616 ∧ word_Set.f k l = some ((x : Int), er) ∧ organonref01_Set.f k l = some ((x : Int), er) ∧
    word_List.f k (x : Int) = some L ∧ organonref01_List.f k (x : Int) = some L ∧ organonlaw01_sameInts.f k L L = some true ∧ word_Count.f (x : Int) = some c ∧ organonref01_Count.f k (x : Int) = some c ∧ organonref01_Least.f k (x : Int) = some (if x = 0 then -1 else (Lib.ctz 64 x : Int)) := by
  have hx := setS_lt l 0 (by decide)
  have e1 : word_Set.f k l = some (((setS l 0).1 : Int), (setS l 0).2) := by
    unfold word_Set.f
    exact set_any l hl l 0 0 k (List.drop_zero) (by decide) (by omega)
  have e2 : organonref01_Set.f k l = some (((setS l 0).1 : Int), (setS l 0).2) := by
    unfold organonref01_Set.f
    exact ref_set_any l hl l 0 0 k (List.drop_zero) (by decide) (by omega)
  generalize setS l 0 = s at *
  have hlen : (lstUp s.1 64).length ≤ 64 := by rw [lstUp_len]; exact cnt_le 64 s.1
  exact ⟨s.1, s.2, _, _, hx, e1, e2, list_tells s.1 hx k (by omega), ref_list_tells s.1 hx k (by omega), same_ints_self _ (by omega) k (by omega), count_tells s.1 hx, count_same s.1 hx k (by omega), least_same s.1 hx k (by omega)⟩

end Go.Proofs.YtcnhcfmmlonjjaaDoor.Pure
