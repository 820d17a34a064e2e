/- Proved: for every uint64 n and every byte slice b, WordSevens(n, b) returns true: no condition. -/
import Derived.Test.YtcnhcfmmlonjjaaPWordSevensx2
import Derived.Test.YtcnhcfmmlonjjaaSz
import Derived.Test.YtcnhcfmmlonjjaaBase
import Derived.Test.YtcnhcfmmlonjjaaSev
namespace Go.Proofs.Ytcnhcfmmlonjjaa.Pure
open Go.RowKit Go.Proofs.Ytcnhcfmmlonjjaa.PWordSevens Go.Proofs.YtcnhcfmmlonjjaaW.PrintWords Go.Proofs.YtcnhcfmmlonjjaaW.PrintLast Go.Proofs.Ytcnhcfmmlonjjaa.Sz Go.Proofs.Ytcnhcfmmlonjjaa.Base Go.Proofs.Ytcnhcfmmlonjjaa.Sev
theorem or128_facts : ∀ b, b < 256 → b ||| 128 = b % 128 + 128 := by decide +kernel
theorem u8_or128' (b : Nat) (hb : b < 256) : Go.bits .or .u8 (b : Int) 128 = ((b % 128 + 128 : Nat) : Int) := by
  have h := (Go.bits_nat .u8 8 (by decide) (fun n h0 h1 => by rw [Go.IntKind.wrap_u8]; omega) b 128 (by omega) (by decide)).2
  rw [show ((128 : Nat) : Int) = 128 from rfl] at h
  rw [h, or128_facts b hb]
theorem put_l0 (f : Nat) : ∀ (n : Nat) (acc : List Int) (k : Nat), n < 128 ^ (f + 1) → acc.length + f ≤ 20 → f < k → word_Put.l0 k (n : Int) acc = some (acc ++ sev n) := by
  induction f with
  | zero =>
    intro n acc k h ha hk
    obtain ⟨k, rfl⟩ : ∃ m, k = m + 1 := ⟨k - 1, by omega⟩
    have hs : n < 128 := by simpa using h
    simp only [word_Put.l0]
    rw [if_neg (by omega), if_pos (by omega), sev_small hs, show (n : Int) % 256 = (n : Int) from by omega]
  | succ f ih =>
    intro n acc k h ha hk
    obtain ⟨k, rfl⟩ : ∃ m, k = m + 1 := ⟨k - 1, by omega⟩
    simp only [word_Put.l0]
    by_cases hs : n < 128
    · rw [if_neg (by omega), if_pos (by omega), sev_small hs, show (n : Int) % 256 = (n : Int) from by omega]
    · have hl : n / 128 < 128 ^ (f + 1) := by rw [Nat.div_lt_iff_lt_mul (by decide), ← Nat.pow_succ]; exact h
      rw [if_pos (by omega), if_pos (by omega), show (n : Int) % 256 = ((n % 256 : Nat) : Int) from by omega, u8_or128' _ (by omega), show (n : Int) / 128 = ((n / 128 : Nat) : Int) from by omega, ih _ _ k hl (by simp; omega) (by omega), sev_big hs, show n % 256 % 128 = n % 128 from by omega]
      rw [List.append_assoc, List.singleton_append]
theorem put_tells (n : Nat) (h : n < 18446744073709551616) (k : Nat) (hk : 20 ≤ k) : word_Put.f k (n : Int) = some (sev n) := by
  unfold word_Put.f
  exact put_l0 9 n [] k (Nat.lt_of_lt_of_le h (by decide)) (by simp) (by omega)

theorem ref_put_l0 (f : Nat) : ∀ (n : Nat) (acc : List Int) (k : Nat), n < 128 ^ (f + 1) → n < 18446744073709551616 → acc.length + f ≤ 20 → f < k → organonref01_Put.l0 k (n : Int) acc = some (acc ++ sev n) := by
  induction f with
  | zero =>
    intro n acc k h _ ha hk
    obtain ⟨k, rfl⟩ : ∃ m, k = m + 1 := ⟨k - 1, by omega⟩
    have hs : n < 128 := by simpa using h
    simp only [organonref01_Put.l0]
    rw [if_neg (by omega), if_pos (by omega), sev_small hs, show (n : Int) % 256 = (n : Int) from by omega]
  | succ f ih =>
    intro n acc k h hn ha hk
    obtain ⟨k, rfl⟩ : ∃ m, k = m + 1 := ⟨k - 1, by omega⟩
    simp only [organonref01_Put.l0]
    by_cases hs : n < 128
    · rw [if_neg (by omega), if_pos (by omega), sev_small hs, show (n : Int) % 256 = (n : Int) from by omega]
    · have hl : n / 128 < 128 ^ (f + 1) := by rw [Nat.div_lt_iff_lt_mul (by decide), ← Nat.pow_succ]; exact h
      rw [if_pos (by omega), if_pos (by omega), Int.tdiv_eq_ediv_of_nonneg (by omega), Int.tmod_eq_emod_of_nonneg (by omega), u64w_id (by omega) (by omega), u64w_id (by omega) (by omega), show (n : Int) / 128 = ((n / 128 : Nat) : Int) from by omega, ih _ _ k hl (by omega) (by simp; omega) (by omega), sev_big hs]
      rw [List.append_assoc, List.singleton_append, show ((n : Int) % 128 + 128) % 256 = ((n % 128 + 128 : Nat) : Int) from by omega]
theorem ref_put_tells (n : Nat) (h : n < 18446744073709551616) (k : Nat) (hk : 20 ≤ k) : organonref01_Put.f k (n : Int) = some (sev n) := by
  unfold organonref01_Put.f
  exact ref_put_l0 9 n [] k (Nat.lt_of_lt_of_le h (by decide)) h (by simp) (by omega)

theorem rd_nat (xs : List Int) (i : Nat) (h : i < xs.length) : rd xs (i : Int) = xs[i] := by
  unfold rd
  rw [show ((i : Int)).toNat = i from by omega, List.getD_eq_getElem?_getD, List.getElem?_eq_getElem h]; rfl
theorem take_snoc (xs : List Int) (i : Nat) (h : i < xs.length) : xs.take (i + 1) = xs.take i ++ [xs[i]] := by
  rw [List.take_succ_eq_append_getElem h]

theorem and127_facts : ∀ b, b < 256 → b &&& 127 = b % 128 := by decide +kernel
theorem u8_and127 (b : Nat) (hb : b < 256) : Go.bits .and .u8 (b : Int) 127 = ((b % 128 : Nat) : Int) := by
  have h := (Go.bits_nat .u8 8 (by decide) (fun n h0 h1 => by rw [Go.IntKind.wrap_u8]; omega) b 127 (by omega) (by decide)).1
  rw [show ((127 : Nat) : Int) = 127 from rfl] at h
  rw [h, and127_facts b hb]
theorem drop_step {l rest : List Int} {i : Nat} {c : Int} (h : l.drop i = c :: rest) : ∃ hi : i < l.length, l[i] = c ∧ l.drop (i + 1) = rest := by
  have hi : i < l.length := by
    rcases Nat.lt_or_ge i l.length with h' | h'
    · exact h'
    · rw [List.drop_eq_nil_of_le h'] at h; cases h
  rw [List.drop_eq_getElem_cons hi] at h
  injection h with h1 h2
  exact ⟨hi, h1, h2⟩
theorem get_or (c i n : Nat) (hc : c < 256) (hi : i ≤ 9) (h9 : i = 9 → c ≤ 1) (hn : n < 2 ^ (7 * i)) :
    Go.bits .or .u64 (n : Int) (shl .u64 (IntKind.u64.wrap (Go.bits .and .u8 (c : Int) 127)) (IntKind.u64.wrap (wrap64 (7 * (i : Int))))) = ((n + c % 128 * 2 ^ (7 * i) : Nat) : Int) ∧ n + c % 128 * 2 ^ (7 * i) < 18446744073709551616 := by
  have hp : 2 ^ (7 * i) ≤ 2 ^ 63 := Nat.pow_le_pow_right (by decide) (by omega)
  have hb : c % 128 * 2 ^ (7 * i) ≤ 9223372036854775808 := by
    by_cases h : i = 9
    · subst h
      simp only [Nat.reduceMul, Nat.reducePow]; omega
    · have hp2 : 2 ^ (7 * i) ≤ 2 ^ 56 := Nat.pow_le_pow_right (by decide) (by omega)
      have hm : c % 128 * 2 ^ (7 * i) ≤ 128 * 2 ^ 56 := Nat.mul_le_mul (by omega) hp2
      omega
  rw [u8_and127 c hc, u64w_id (by omega) (by omega), wrap64_id (by omega) (by omega), u64w_id (by omega) (by omega), show 7 * (i : Int) = ((7 * i : Nat) : Int) from by omega, shl_u64 _ _ (by omega)]
  have hz : c % 128 * 2 ^ (7 * i) % 2 ^ (7 * i) = 0 := Nat.mul_mod_left _ _
  have ho := nat_or_add (c % 128 * 2 ^ (7 * i)) n (7 * i) hz hn
  generalize c % 128 * 2 ^ (7 * i) = x at *
  refine ⟨?_, by omega⟩
  rw [Nat.mod_eq_of_lt (by omega), n64_or n x (by omega) (by omega), Nat.or_comm, ho, Nat.add_comm]
theorem get_l0 (l : List Int) (hl : l.length ≤ 140737488355320) (hb : ∀ x ∈ l, 0 ≤ x ∧ x < 256) : ∀ (rest : List Int) (i n k : Nat), l.drop i = rest → i ≤ 9 → n < 2 ^ (7 * i) → 2 * rest.length + 2 < k →
    word_Get.l0 k (n : Int) l (l.length : Int) (i : Int) = some (getS rest i n)
  | [], i, n, k, hd, hi, hn, hk => by
    obtain ⟨k, rfl⟩ : ∃ m, k = m + 1 := ⟨k - 1, by omega⟩
    have : l.length ≤ i := by simpa using hd
    simp only [word_Get.l0, getS]
    rw [if_neg (by omega)]
  | c :: rest, i, n, k, hd, hi, hn, hk => by
    obtain ⟨k, rfl⟩ : ∃ m, k = m + 1 + 1 := ⟨k - 2, by simp at hk; omega⟩
    obtain ⟨hlt, hc, hd2⟩ := drop_step hd
    obtain ⟨c0, c1⟩ := hb c (by rw [← hc]; exact List.getElem_mem hlt)
    obtain ⟨c, rfl⟩ := Int.eq_ofNat_of_zero_le c0
    simp only [word_Get.l0]
    rw [if_pos (by omega), if_pos (by omega), if_pos (by omega), rd_nat l i hlt, hc]
    simp only [getS]
    have e : 2 ^ (7 * (i + 1)) = 2 ^ (7 * i) * 128 := by rw [show 7 * (i + 1) = 7 * i + 7 from by omega, Nat.pow_add]
    have body : (i = 9 → c ≤ 1) → word_Get.j1 (k + 1) (n : Int) (i : Int) (c : Int) l (l.length : Int) (i : Int) false = some (if (c : Int) < 128 then (if (c : Int) = 0 ∧ 0 < i then (0, 0, 11) else (((n + (c : Int).toNat * 2 ^ (7 * i) : Nat) : Int), ((i + 1 : Nat) : Int), 0)) else getS rest (i + 1) (n + (c : Int).toNat % 128 * 2 ^ (7 * i))) := by
      intro h9
      obtain ⟨o1, o2⟩ := get_or c i n (by omega) hi h9 hn
      simp only [word_Get.j1]
      rw [if_neg (by decide), o1, wrap64_id (by omega) (by omega), u64w_id (by omega) (by omega), if_pos (by omega), wrap64_id (n := (i : Int) + 1) (by omega) (by omega)]
      rw [show ((c : Int)).toNat = c from by omega]
      by_cases h1 : (c : Int) < 128
      · rw [if_pos (by omega), if_pos h1, Nat.mod_eq_of_lt (show c < 128 by omega)]
        by_cases h2 : (c : Int) = 0
        · rw [if_pos h2]
          by_cases h3 : (i : Int) > 0
          · rw [if_pos h3, if_pos ⟨h2, by omega⟩]
          · rw [if_neg h3, if_neg (by omega)]; rfl
        · rw [if_neg h2, if_neg (by omega)]; rfl
      · rw [if_neg (by omega), if_neg h1, show (i : Int) + 1 = ((i + 1 : Nat) : Int) from by omega]
        have hm : c % 128 * 2 ^ (7 * i) ≤ 127 * 2 ^ (7 * i) := Nat.mul_le_mul_right _ (by omega)
        simp only [List.length_cons] at hk
        exact get_l0 l hl hb rest (i + 1) _ k hd2 (by omega) (by rw [e]; omega) (by omega)
    by_cases h9 : i = 9
    · rw [if_pos (by omega)]
      by_cases h1 : (c : Int) > 1
      · rw [decide_eq_true h1, if_pos ⟨h9, h1⟩]
        simp only [word_Get.j1]
        rw [if_true]
      · rw [decide_eq_false h1, if_neg (by omega)]
        exact body (by omega)
    · rw [if_neg (by omega), if_neg (by omega)]
      exact body (by omega)
theorem get_tells (l : List Int) (hl : l.length ≤ 140737488355320) (hb : ∀ x ∈ l, 0 ≤ x ∧ x < 256) (k : Nat) (hk : 2 * l.length + 2 < k) : word_Get.f k l = some (getS l 0 0) := by
  unfold word_Get.f
  exact get_l0 l hl hb l 0 0 k rfl (by omega) (by simp) hk

theorem ref_get_l0 (l : List Int) (hl : l.length ≤ 140737488355320) (hb : ∀ x ∈ l, 0 ≤ x ∧ x < 256) : ∀ (rest : List Int) (i n k : Nat), l.drop i = rest → i ≤ 9 → n < 2 ^ (7 * i) → 3 * rest.length + 3 < k →
    organonref01_Get.l0 k l (n : Int) ((2 ^ (7 * i) : Nat) : Int) (i : Int) = some (getS rest i n)
  | [], i, n, k, hd, hi, hn, hk => by
    obtain ⟨k, rfl⟩ : ∃ m, k = m + 1 + 1 := ⟨k - 2, by simp at hk; omega⟩
    have : l.length ≤ i := by simpa using hd
    simp only [organonref01_Get.l0, getS]
    rw [if_neg (by omega)]
    simp only [organonref01_Get.j1]
    rw [if_neg (by decide)]
  | c :: rest, i, n, k, hd, hi, hn, hk => by
    obtain ⟨k, rfl⟩ : ∃ m, k = m + 1 + 1 + 1 := ⟨k - 3, by simp at hk; omega⟩
    obtain ⟨hlt, hc, hd2⟩ := drop_step hd
    obtain ⟨c0, c1⟩ := hb c (by rw [← hc]; exact List.getElem_mem hlt)
    obtain ⟨c, rfl⟩ := Int.eq_ofNat_of_zero_le c0
    simp only [organonref01_Get.l0]
    rw [if_pos (by omega), decide_eq_true (by omega)]
    simp only [organonref01_Get.j1]
    rw [if_true, rd_nat l i hlt, hc]
    simp only [getS]
    have e : 2 ^ (7 * (i + 1)) = 2 ^ (7 * i) * 128 := by rw [show 7 * (i + 1) = 7 * i + 7 from by omega, Nat.pow_add]
    have body : (i = 9 → c ≤ 1) → organonref01_Get.j2 (k + 1) l (n : Int) ((2 ^ (7 * i) : Nat) : Int) (i : Int) false = some (if (c : Int) < 128 then (if (c : Int) = 0 ∧ 0 < i then (0, 0, 11) else (((n + (c : Int).toNat * 2 ^ (7 * i) : Nat) : Int), ((i + 1 : Nat) : Int), 0)) else getS rest (i + 1) (n + (c : Int).toNat % 128 * 2 ^ (7 * i))) := by
      intro h9
      obtain ⟨_, o2⟩ := get_or c i n (by omega) hi h9 hn
      have o3 : IntKind.u64.wrap ((n : Int) + IntKind.u64.wrap (IntKind.u64.wrap (Int.tmod (c : Int) 128) * ((2 ^ (7 * i) : Nat) : Int))) = ((n + c % 128 * 2 ^ (7 * i) : Nat) : Int) := by
        rw [Int.tmod_eq_emod_of_nonneg (by omega), u64w_id (n := (c : Int) % 128) (by omega) (by omega), show (c : Int) % 128 * ((2 ^ (7 * i) : Nat) : Int) = ((c % 128 * 2 ^ (7 * i) : Nat) : Int) from by rw [Int.natCast_mul]; rfl]
        generalize c % 128 * 2 ^ (7 * i) = x at *
        rw [u64w_id (n := (x : Int)) (by omega) (by omega), u64w_id (by omega) (by omega)]; omega
      simp only [organonref01_Get.j2]
      rw [if_neg (by decide), if_pos (by omega), if_pos (by omega), rd_nat l i hlt, hc, o3, wrap64_id (n := (i : Int) + 1) (by omega) (by omega)]
      rw [show ((c : Int)).toNat = c from by omega]
      by_cases h1 : (c : Int) < 128
      · rw [if_pos h1, if_pos h1, Nat.mod_eq_of_lt (show c < 128 by omega)]
        by_cases h2 : (c : Int) = 0
        · rw [if_pos h2]
          by_cases h3 : (i : Int) > 0
          · rw [if_pos h3, if_pos ⟨h2, by omega⟩]
          · rw [if_neg h3, if_neg (by omega)]; rfl
        · rw [if_neg h2, if_neg (by omega)]; rfl
      · rw [if_neg h1, if_neg h1, show (i : Int) + 1 = ((i + 1 : Nat) : Int) from by omega]
        have hm : c % 128 * 2 ^ (7 * i) ≤ 127 * 2 ^ (7 * i) := Nat.mul_le_mul_right _ (by omega)
        simp only [List.length_cons] at hk
        have h9' : i ≠ 9 := by omega
        have hp2 : 2 ^ (7 * i) ≤ 2 ^ 56 := Nat.pow_le_pow_right (by decide) (by omega)
        have := ref_get_l0 l hl hb rest (i + 1) (n + c % 128 * 2 ^ (7 * i)) k hd2 (by omega) (by rw [e]; omega) (by omega)
        rw [e, Int.natCast_mul] at this
        rw [u64w_id (by omega) (by omega)]
        exact this
    by_cases h9 : i = 9
    · rw [if_pos (by omega), if_pos (by omega), if_pos (by omega)]
      by_cases h1 : (c : Int) > 1
      · rw [decide_eq_true h1, if_pos ⟨h9, h1⟩]
        simp only [organonref01_Get.j2]
        rw [if_true]
      · rw [decide_eq_false h1, if_neg (by omega)]
        exact body (by omega)
    · rw [if_neg (by omega), if_neg (by omega)]
      exact body (by omega)
theorem ref_get_tells (l : List Int) (hl : l.length ≤ 140737488355320) (hb : ∀ x ∈ l, 0 ≤ x ∧ x < 256) (k : Nat) (hk : 3 * l.length + 3 < k) : organonref01_Get.f k l = some (getS l 0 0) := by
  unfold organonref01_Get.f
  exact ref_get_l0 l hl hb l 0 0 k rfl (by omega) (by simp) hk

theorem WordSevens : organonlaw01_WordSevens.Pure := by
  intro n l wn hl _ hb
  obtain ⟨a0, a1⟩ := wf_u64 wn
  obtain ⟨n, rfl⟩ := Int.eq_ofNat_of_zero_le a0
  have hb' : ∀ x ∈ l, 0 ≤ x ∧ x < 256 := fun x hx => wf_u8 (hb x hx)
  obtain ⟨K, hK⟩ : ∃ K : Nat, 3 * l.length + 1000 ≤ K := ⟨_, Nat.le_refl _⟩
  refine ⟨K, ?_⟩
  unfold organonlaw01_WordSevens.f
  rw [get_tells l (by omega) hb' K (by omega), some_bind, ref_get_tells l (by omega) hb' K (by omega), some_bind, put_tells n (by omega) K (by omega), some_bind, ref_put_tells n (by omega) K (by omega), some_bind]
  unfold organonlaw01_sameBytes.f
  rw [some_bind, if_pos (beq_self_eq_true _), if_pos rfl, if_pos rfl, beq_self_eq_true]

end Go.Proofs.Ytcnhcfmmlonjjaa.Pure
