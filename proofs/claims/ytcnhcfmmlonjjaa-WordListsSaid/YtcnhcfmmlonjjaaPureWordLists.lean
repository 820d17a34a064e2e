/- Proved: for every uint64 s, WordLists(s) returns true: no condition. -/
import Derived.Test.YtcnhcfmmlonjjaaPWordListsx1
import Derived.Test.YtcnhcfmmlonjjaaBase
import Derived.Test.YtcnhcfmmlonjjaaRot
import Derived.Test.YtcnhcfmmlonjjaaLst
namespace Go.Proofs.Ytcnhcfmmlonjjaa.Pure
open Go.RowKit Go.Proofs.Ytcnhcfmmlonjjaa.PWordLists Go.Proofs.YtcnhcfmmlonjjaaW.PrintWords Go.Proofs.YtcnhcfmmlonjjaaW.PrintLast Go.Proofs.Ytcnhcfmmlonjjaa.Base Go.Proofs.Ytcnhcfmmlonjjaa.Rot Go.Proofs.Ytcnhcfmmlonjjaa.Lst
theorem list_l0 (s : Nat) (hs : s < 18446744073709551616) (d : Nat) : ∀ (i k : Nat), i + d = 64 → d < k → word_List.l0 k (s : Int) (lstUp s i) (i : Int) = some (lstUp s 64) := by
  induction d with
  | zero =>
    intro i k h hk
    obtain ⟨k, rfl⟩ : ∃ m, k = m + 1 := ⟨k - 1, by omega⟩
    simp only [word_List.l0]
    rw [if_neg (by omega), show i = 64 from by omega]
  | succ d ih =>
    intro i k h hk
    obtain ⟨k, rfl⟩ : ∃ m, k = m + 1 := ⟨k - 1, by omega⟩
    simp only [word_List.l0]
    have hq : s / 2 ^ i ≤ s := Nat.div_le_self _ _
    have hlen : (lstUp s i).length ≤ 64 := by rw [lstUp_len]; have := cnt_le i s; omega
    have nxt := ih (i + 1) k (by omega) (by omega)
    rw [lstUp_succ s i] at nxt
    rw [if_pos (by omega), u64w_id (by omega) (by omega), if_pos (by omega), shr_nat _ _ _ (by simp [IntKind.bits]; omega), wrap64_id (by omega) (by omega), show (i : Int) + 1 = ((i + 1 : Nat) : Int) from by omega]
    generalize s / 2 ^ i = q at *
    rw [u64_and1 _ (by omega) (by omega)]
    by_cases hb : q % 2 = 1
    · rw [if_pos (by omega), if_pos (by omega)]
      rw [if_pos hb] at nxt
      exact nxt
    · rw [if_neg (by omega)]
      rw [if_neg hb, List.append_nil] at nxt
      exact nxt
theorem list_tells (s : Nat) (hs : s < 18446744073709551616) (k : Nat) (hk : 70 ≤ k) : word_List.f k (s : Int) = some (lstUp s 64) := by
  unfold word_List.f
  exact list_l0 s hs 64 0 k (by omega) (by omega)

theorem ones_tells (x : Nat) (hx : x < 18446744073709551616) : bits_OnesCount64.f (x : Int) = some ((cnt 64 x : Nat) : Int) := by
  obtain ⟨x1, x2, x3, x4, x5, h1, l1, h2, l2, h3, l3, h4, h5, h6⟩ := ones_par x hx
  have c1 : ((6148914691236517205 : Nat) : Int) = 6148914691236517205 := rfl
  have c2 : ((3689348814741910323 : Nat) : Int) = 3689348814741910323 := rfl
  have c3 : ((1085102592571150095 : Nat) : Int) = 1085102592571150095 := rfl
  have E1 : IntKind.u64.wrap (Go.bits .and .u64 ((x : Int) / 2) 6148914691236517205 + Go.bits .and .u64 (x : Int) 6148914691236517205) = (x1 : Int) := by
    have a1 := n64_and (x / 2) 6148914691236517205 (by omega) (by omega)
    have a2 := n64_and x 6148914691236517205 (by omega) (by omega)
    rw [c1] at a1 a2
    rw [show (x : Int) / 2 = ((x / 2 : Nat) : Int) from by omega, a1, a2, u64w_id (by omega) (by omega)]; omega
  have E2 : IntKind.u64.wrap (Go.bits .and .u64 ((x1 : Int) / 4) 3689348814741910323 + Go.bits .and .u64 (x1 : Int) 3689348814741910323) = (x2 : Int) := by
    have a1 := n64_and (x1 / 4) 3689348814741910323 (by omega) (by omega)
    have a2 := n64_and x1 3689348814741910323 (by omega) (by omega)
    rw [c2] at a1 a2
    rw [show (x1 : Int) / 4 = ((x1 / 4 : Nat) : Int) from by omega, a1, a2, u64w_id (by omega) (by omega)]; omega
  have E3 : Go.bits .and .u64 (IntKind.u64.wrap ((x2 : Int) / 16 + (x2 : Int))) 1085102592571150095 = (x3 : Int) := by
    have a1 := n64_and (x2 / 16 + x2) 1085102592571150095 (by omega) (by omega)
    rw [c3] at a1
    rw [u64w_id (by omega) (by omega), show (x2 : Int) / 16 + (x2 : Int) = ((x2 / 16 + x2 : Nat) : Int) from by omega, a1, h3]
  have E4 : IntKind.u64.wrap ((x3 : Int) + (x3 : Int) / 256) = (x4 : Int) := by
    rw [u64w_id (by omega) (by omega)]; omega
  have E5 : IntKind.u64.wrap ((x4 : Int) + (x4 : Int) / 65536) = (x5 : Int) := by
    rw [u64w_id (by omega) (by omega)]; omega
  have E6 : Go.bits .and .i64 (wrap64 (IntKind.u64.wrap ((x5 : Int) + (x5 : Int) / 4294967296))) 127 = ((cnt 64 x : Nat) : Int) := by
    rw [u64w_id (by omega) (by omega), wrap64_id (by omega) (by omega)]
    have h := Go.bits_mask .i64 63 (by decide) (fun n h0 h1 => by rw [i64w]; exact wrap64_id (by omega) (by omega)) 7 (by decide) ((x5 : Int) + (x5 : Int) / 4294967296) (by omega) (by omega)
    rw [show (2 : Int) ^ 7 - 1 = 127 from rfl] at h
    rw [h]; omega
  clear h1 h2 h3 h4 h5 h6
  unfold bits_OnesCount64.f
  rw [E1, E2, E3, E4, E5, E6]
theorem count_tells (x : Nat) (hx : x < 18446744073709551616) : word_Count.f (x : Int) = some ((cnt 64 x : Nat) : Int) := by
  unfold word_Count.f
  rw [ones_tells x hx]; simp only [some_bind]

theorem bit_in (n : Nat) (hn : n ≤ 63) : word_bit.f (n : Int) = some (((2 ^ n : Nat) : Int), true) := by
  unfold word_bit.f
  rw [if_neg (by omega), if_neg (by omega), u64w_id (by omega) (by omega), if_pos (by omega)]
  have := shl_u64 1 n (by omega)
  have hp : 2 ^ n ≤ 2 ^ 63 := Nat.pow_le_pow_right (by decide) hn
  rw [Nat.one_mul, Nat.mod_eq_of_lt (by omega), show ((1 : Nat) : Int) = 1 from rfl] at this
  rw [this]
theorem bit_out (n : Int) (hn : n < 0 ∨ 63 < n) : word_bit.f n = some (0, false) := by
  unfold word_bit.f
  by_cases h : n < 0
  · rw [if_pos h]
  · rw [if_neg h, if_pos (by omega)]
theorem member_in (s n : Nat) (hs : s < 18446744073709551616) (hn : n ≤ 63) : word_Has.f (s : Int) (n : Int) = some (decide (s / 2 ^ n % 2 = 1)) := by
  unfold word_Has.f
  have hp : 2 ^ n ≤ 2 ^ 63 := Nat.pow_le_pow_right (by decide) hn
  rw [bit_in n hn, some_bind]
  simp only []
  rw [if_true, n64_and s (2 ^ n) hs (by omega)]
  have h := and_bit s n
  congr 1
  rw [Bool.eq_iff_iff, bne_iff_ne, decide_eq_true_iff, ← h]
  omega
theorem member_out (s n : Int) (hn : n < 0 ∨ 63 < n) : word_Has.f s n = some false := by
  unfold word_Has.f
  rw [bit_out n hn, some_bind]
  simp only []
  rw [if_neg (by decide)]

theorem rd_nat (xs : List Int) (i : Nat) (h : i < xs.length) : rd xs (i : Int) = xs[i] := by
  unfold rd
  rw [show ((i : Int)).toNat = i from by omega, List.getD_eq_getElem?_getD, List.getElem?_eq_getElem h]; rfl
theorem take_snoc (xs : List Int) (i : Nat) (h : i < xs.length) : xs.take (i + 1) = xs.take i ++ [xs[i]] := by
  rw [List.take_succ_eq_append_getElem h]

theorem set_l0 (l : List Int) (hl : l.length ≤ 140737488355320) (hb : ∀ x ∈ l, 0 ≤ x ∧ x ≤ 63) : ∀ (rest : List Int) (i a k : Nat), l.drop i = rest → a < 18446744073709551616 → rest.length < k →
    word_Set.l0 k (a : Int) l (l.length : Int) (i : Int) = some (((orAll a rest : Nat) : Int), 0)
  | [], i, a, k, hd, ha, hk => by
    obtain ⟨k, rfl⟩ : ∃ m, k = m + 1 := ⟨k - 1, by omega⟩
    have : l.length ≤ i := by simpa using hd
    simp only [word_Set.l0]
    rw [if_neg (by omega)]; rfl
  | c :: rest, i, a, k, hd, ha, hk => by
    obtain ⟨k, rfl⟩ : ∃ m, k = m + 1 := ⟨k - 1, by omega⟩
    have hi : i < l.length := by
      rcases Nat.lt_or_ge i l.length with h' | h'
      · exact h'
      · rw [List.drop_eq_nil_of_le h'] at hd; cases hd
    rw [List.drop_eq_getElem_cons hi] at hd
    injection hd with h1 h2
    obtain ⟨c0, c1⟩ := hb c (by rw [← h1]; exact List.getElem_mem hi)
    obtain ⟨c, rfl⟩ := Int.eq_ofNat_of_zero_le c0
    have hp : 2 ^ c ≤ 2 ^ 63 := Nat.pow_le_pow_right (by decide) (by omega)
    have ho := Nat.or_lt_two_pow (n := 64) (show a < 2 ^ 64 by simpa using ha) (show 2 ^ c < 2 ^ 64 by omega)
    simp only [word_Set.l0]
    rw [if_pos (by omega), if_pos (by omega), if_pos (by omega), rd_nat l i hi, h1, bit_in c (by omega), some_bind]
    simp only []
    simp only [List.length_cons] at hk
    rw [if_true, n64_or a (2 ^ c) ha (by omega), wrap64_id (by omega) (by omega), show (i : Int) + 1 = ((i + 1 : Nat) : Int) from by omega, set_l0 l hl hb rest (i + 1) (a ||| 2 ^ c) k h2 (by simpa using ho) (by omega)]
    have e1 : orAll a ((c : Int) :: rest) = orAll (a ||| 2 ^ c) rest := by unfold orAll; rw [List.foldl_cons, show ((c : Int)).toNat = c from by omega]
    rw [e1]
theorem set_tells (l : List Int) (hl : l.length ≤ 140737488355320) (hb : ∀ x ∈ l, 0 ≤ x ∧ x ≤ 63) (k : Nat) (hk : l.length < k) : word_Set.f k l = some (((orAll 0 l : Nat) : Int), 0) := by
  unfold word_Set.f
  exact set_l0 l hl hb l 0 0 k rfl (by omega) hk

theorem lists_l1 (s : Nat) (hs : s < 18446744073709551616) (d : Nat) : ∀ (i k : Nat), i + d = 64 → d + 100 < k →
    organonlaw01_WordLists.l1 k (s : Int) (lstUp s 64) ((cnt i s : Nat) : Int) (i : Int) = some true := by
  have hlen : (lstUp s 64).length = cnt 64 s := lstUp_len s 64
  have hle := cnt_le 64 s
  induction d with
  | zero =>
    intro i k h hk
    obtain ⟨k, rfl⟩ : ∃ m, k = m + 1 + 1 := ⟨k - 2, by omega⟩
    obtain rfl : i = 64 := by omega
    have hmem : ∀ x ∈ lstUp s 64, 0 ≤ x ∧ x ≤ 63 := by
      intro x hx
      obtain ⟨n, h1, h2, _⟩ := lstUp_mem hx
      omega
    simp only [organonlaw01_WordLists.l1]
    rw [if_pos (by omega), member_out _ _ (by omega), some_bind, if_neg (by decide), wrap64_id (by omega) (by omega), if_neg (by omega)]
    rw [set_tells _ (by omega) hmem k (by omega), some_bind, hlen, orAll_lst, Nat.mod_eq_of_lt (show s < 2 ^ 64 by simpa using hs), if_pos rfl]
    simp only []
    rw [if_true, if_true, count_tells s hs, some_bind, beq_self_eq_true]
  | succ d ih =>
    intro i k h hk
    obtain ⟨k, rfl⟩ : ∃ m, k = m + 1 := ⟨k - 1, by omega⟩
    have hci := cnt_le i s
    have nxt := ih (i + 1) k (by omega) (by omega)
    rw [cnt_succ'] at nxt
    simp only [organonlaw01_WordLists.l1]
    rw [if_pos (by omega), member_in s i hs (by omega), some_bind, wrap64_id (n := (i : Int) + 1) (by omega) (by omega), show (i : Int) + 1 = ((i + 1 : Nat) : Int) from by omega]
    by_cases hb : s / 2 ^ i % 2 = 1
    · rw [decide_eq_true hb, if_pos rfl, wrap64_id (by omega) (by omega)]
      rw [hb] at nxt
      exact nxt
    · rw [decide_eq_false hb, if_neg (by decide)]
      rw [show s / 2 ^ i % 2 = 0 from by have := Nat.mod_two_eq_zero_or_one (s / 2 ^ i); omega] at nxt
      exact nxt
theorem lists_l0 (s : Nat) (hs : s < 18446744073709551616) (L : List Int) (hlen : L.length ≤ 64) (hr : L.Pairwise (· < ·)) (hmem : ∀ x ∈ L, ∃ n : Nat, x = (n : Int) ∧ n < 64 ∧ s / 2 ^ n % 2 = 1)
    (fin : ∀ k, 200 < k → organonlaw01_WordLists.l1 k (s : Int) L 0 0 = some true) (rest : List Int) : ∀ (i k : Nat) (last : Int), L.drop i = rest → (∀ x ∈ rest, last < x) → rest.length + 300 < k →
    organonlaw01_WordLists.l0 k (s : Int) L last L (L.length : Int) (i : Int) = some true := by
  induction rest with
  | nil =>
    intro i k last hd _ hk
    obtain ⟨k, rfl⟩ : ∃ m, k = m + 1 + 1 := ⟨k - 2, by omega⟩
    have : L.length ≤ i := by simpa using hd
    have nxt := fin k (by simp at hk; omega)
    simp only [organonlaw01_WordLists.l0]
    rw [if_neg (by omega)]
    simp only [organonlaw01_WordLists.l1]
    rw [if_pos (by omega), member_out _ _ (by omega), some_bind, if_neg (by decide), wrap64_id (by omega) (by omega)]
    exact nxt
  | cons c rest ih =>
    intro i k last hd hlt hk
    obtain ⟨k, rfl⟩ : ∃ m, k = m + 1 := ⟨k - 1, by omega⟩
    have hm : c ∈ L := by
      have : c ∈ L.drop i := by rw [hd]; simp
      exact List.mem_of_mem_drop this
    have hp : (c :: rest).Pairwise (· < ·) := by rw [← hd]; exact hr.drop
    have hi : i < L.length := by
      rcases Nat.lt_or_ge i L.length with h' | h'
      · exact h'
      · rw [List.drop_eq_nil_of_le h'] at hd; cases hd
    rw [List.drop_eq_getElem_cons hi] at hd
    injection hd with h1 h2
    have hc := hlt c (by simp)
    obtain ⟨n, hn, n1, n2⟩ := hmem c hm
    simp only [List.length_cons] at hk
    simp only [organonlaw01_WordLists.l0]
    rw [if_pos (by omega), if_pos (by omega), if_pos (by omega), rd_nat _ i hi, h1, if_neg (by omega), if_neg (by omega), hn, member_in s n hs (by omega), some_bind, decide_eq_true n2, if_pos rfl, wrap64_id (by omega) (by omega), show (i : Int) + 1 = ((i + 1 : Nat) : Int) from by omega]
    rw [List.pairwise_cons] at hp
    exact ih (i + 1) k (n : Int) h2 (fun x hx => by rw [← hn]; exact hp.1 x hx) (by omega)
theorem WordLists : organonlaw01_WordLists.Pure := by
  intro s ws
  obtain ⟨a0, a1⟩ := wf_u64 ws
  obtain ⟨s, rfl⟩ := Int.eq_ofNat_of_zero_le a0
  have hs : s < 18446744073709551616 := by omega
  obtain ⟨K, hK⟩ : ∃ K : Nat, 2000 ≤ K := ⟨_, Nat.le_refl _⟩
  refine ⟨K, ?_⟩
  unfold organonlaw01_WordLists.f
  have hlen : (lstUp s 64).length ≤ 64 := by rw [lstUp_len]; exact cnt_le 64 s
  rw [list_tells s hs K (by omega), some_bind]
  refine lists_l0 s hs (lstUp s 64) hlen (lstUp_rises s 64) (fun x hx => lstUp_mem hx) (fun k hk => lists_l1 s hs 64 0 k (by omega) (by omega)) (lstUp s 64) 0 K (-1) (List.drop_zero) (fun x hx => ?_) (by omega)
  obtain ⟨n, h1, _, _⟩ := lstUp_mem hx
  omega

end Go.Proofs.Ytcnhcfmmlonjjaa.Pure
