/- Proved: for every uint64 n and every byte slice more, WordBack(n, more) returns true: no condition. -/
import Derived.Test.YtcnhcfmmlonjjaaPWordBackx2
import Derived.Test.YtcnhcfmmlonjjaaSz
import Derived.Test.YtcnhcfmmlonjjaaBase
import Derived.Test.YtcnhcfmmlonjjaaSev
namespace Go.Proofs.Ytcnhcfmmlonjjaa.Pure
open Go.RowKit Go.Proofs.Ytcnhcfmmlonjjaa.PWordBack Go.Proofs.YtcnhcfmmlonjjaaW.PrintWords Go.Proofs.YtcnhcfmmlonjjaaW.PrintLast Go.Proofs.Ytcnhcfmmlonjjaa.Sz Go.Proofs.Ytcnhcfmmlonjjaa.Base Go.Proofs.Ytcnhcfmmlonjjaa.Sev
theorem or128_facts : ∀ b, b < 256 → b ||| 128 = b % 128 + 128 := by decide +kernel
theorem u8_or128' (b : Nat) (hb : b < 256) : Go.bits .or .u8 (b : Int) 128 = ((b % 128 + 128 : Nat) : Int) := by
  have h := (Go.bits_nat .u8 8 (by decide) (fun n h0 h1 => by rw [Go.IntKind.wrap_u8]; omega) b 128 (by omega) (by decide)).2
  rw [show ((128 : Nat) : Int) = 128 from rfl] at h
  rw [h, or128_facts b hb]
theorem put_l0 (f : Nat) : ∀ (n : Nat) (acc : List Int) (k : Nat), n < 128 ^ (f + 1) → acc.length + f ≤ 20 → f < k → word_Put.l0 k (n : Int) acc = some (acc ++ sev n) := by
  induction f with
  | zero =>
    intro n acc k h ha hk
    obtain ⟨k, rfl⟩ : ∃ m, k = m + 1 := ⟨k - 1, by omega⟩
    have hs : n < 128 := by simpa using h
    simp only [word_Put.l0]
    rw [if_neg (by omega), if_pos (by omega), sev_small hs, show (n : Int) % 256 = (n : Int) from by omega]
  | succ f ih =>
    intro n acc k h ha hk
    obtain ⟨k, rfl⟩ : ∃ m, k = m + 1 := ⟨k - 1, by omega⟩
    simp only [word_Put.l0]
    by_cases hs : n < 128
    · rw [if_neg (by omega), if_pos (by omega), sev_small hs, show (n : Int) % 256 = (n : Int) from by omega]
    · have hl : n / 128 < 128 ^ (f + 1) := by rw [Nat.div_lt_iff_lt_mul (by decide), ← Nat.pow_succ]; exact h
      rw [if_pos (by omega), if_pos (by omega), show (n : Int) % 256 = ((n % 256 : Nat) : Int) from by omega, u8_or128' _ (by omega), show (n : Int) / 128 = ((n / 128 : Nat) : Int) from by omega, ih _ _ k hl (by simp; omega) (by omega), sev_big hs, show n % 256 % 128 = n % 128 from by omega]
      rw [List.append_assoc, List.singleton_append]
theorem put_tells (n : Nat) (h : n < 18446744073709551616) (k : Nat) (hk : 20 ≤ k) : word_Put.f k (n : Int) = some (sev n) := by
  unfold word_Put.f
  exact put_l0 9 n [] k (Nat.lt_of_lt_of_le h (by decide)) (by simp) (by omega)

theorem rd_nat (xs : List Int) (i : Nat) (h : i < xs.length) : rd xs (i : Int) = xs[i] := by
  unfold rd
  rw [show ((i : Int)).toNat = i from by omega, List.getD_eq_getElem?_getD, List.getElem?_eq_getElem h]; rfl
theorem take_snoc (xs : List Int) (i : Nat) (h : i < xs.length) : xs.take (i + 1) = xs.take i ++ [xs[i]] := by
  rw [List.take_succ_eq_append_getElem h]

theorem and127_facts : ∀ b, b < 256 → b &&& 127 = b % 128 := by decide +kernel
theorem u8_and127 (b : Nat) (hb : b < 256) : Go.bits .and .u8 (b : Int) 127 = ((b % 128 : Nat) : Int) := by
  have h := (Go.bits_nat .u8 8 (by decide) (fun n h0 h1 => by rw [Go.IntKind.wrap_u8]; omega) b 127 (by omega) (by decide)).1
  rw [show ((127 : Nat) : Int) = 127 from rfl] at h
  rw [h, and127_facts b hb]
theorem drop_step {l rest : List Int} {i : Nat} {c : Int} (h : l.drop i = c :: rest) : ∃ hi : i < l.length, l[i] = c ∧ l.drop (i + 1) = rest := by
  have hi : i < l.length := by
    rcases Nat.lt_or_ge i l.length with h' | h'
    · exact h'
    · rw [List.drop_eq_nil_of_le h'] at h; cases h
  rw [List.drop_eq_getElem_cons hi] at h
  injection h with h1 h2
  exact ⟨hi, h1, h2⟩
theorem get_or (c i n : Nat) (hc : c < 256) (hi : i ≤ 9) (h9 : i = 9 → c ≤ 1) (hn : n < 2 ^ (7 * i)) :
    Go.bits .or .u64 (n : Int) (shl .u64 (IntKind.u64.wrap (Go.bits .and .u8 (c : Int) 127)) (IntKind.u64.wrap (wrap64 (7 * (i : Int))))) = ((n + c % 128 * 2 ^ (7 * i) : Nat) : Int) ∧ n + c % 128 * 2 ^ (7 * i) < 18446744073709551616 := by
  have hp : 2 ^ (7 * i) ≤ 2 ^ 63 := Nat.pow_le_pow_right (by decide) (by omega)
  have hb : c % 128 * 2 ^ (7 * i) ≤ 9223372036854775808 := by
    by_cases h : i = 9
    · subst h
      simp only [Nat.reduceMul, Nat.reducePow]; omega
    · have hp2 : 2 ^ (7 * i) ≤ 2 ^ 56 := Nat.pow_le_pow_right (by decide) (by omega)
      have hm : c % 128 * 2 ^ (7 * i) ≤ 128 * 2 ^ 56 := Nat.mul_le_mul (by omega) hp2
      omega
  rw [u8_and127 c hc, u64w_id (by omega) (by omega), wrap64_id (by omega) (by omega), u64w_id (by omega) (by omega), show 7 * (i : Int) = ((7 * i : Nat) : Int) from by omega, shl_u64 _ _ (by omega)]
  have hz : c % 128 * 2 ^ (7 * i) % 2 ^ (7 * i) = 0 := Nat.mul_mod_left _ _
  have ho := nat_or_add (c % 128 * 2 ^ (7 * i)) n (7 * i) hz hn
  generalize c % 128 * 2 ^ (7 * i) = x at *
  refine ⟨?_, by omega⟩
  rw [Nat.mod_eq_of_lt (by omega), n64_or n x (by omega) (by omega), Nat.or_comm, ho, Nat.add_comm]
theorem get_l0 (l : List Int) (hl : l.length ≤ 140737488355320) (hb : ∀ x ∈ l, 0 ≤ x ∧ x < 256) : ∀ (rest : List Int) (i n k : Nat), l.drop i = rest → i ≤ 9 → n < 2 ^ (7 * i) → 2 * rest.length + 2 < k →
    word_Get.l0 k (n : Int) l (l.length : Int) (i : Int) = some (getS rest i n)
  | [], i, n, k, hd, hi, hn, hk => by
    obtain ⟨k, rfl⟩ : ∃ m, k = m + 1 := ⟨k - 1, by omega⟩
    have : l.length ≤ i := by simpa using hd
    simp only [word_Get.l0, getS]
    rw [if_neg (by omega)]
  | c :: rest, i, n, k, hd, hi, hn, hk => by
    obtain ⟨k, rfl⟩ : ∃ m, k = m + 1 + 1 := ⟨k - 2, by simp at hk; omega⟩
    obtain ⟨hlt, hc, hd2⟩ := drop_step hd
    obtain ⟨c0, c1⟩ := hb c (by rw [← hc]; exact List.getElem_mem hlt)
    obtain ⟨c, rfl⟩ := Int.eq_ofNat_of_zero_le c0
    simp only [word_Get.l0]
    rw [if_pos (by omega), if_pos (by omega), if_pos (by omega), rd_nat l i hlt, hc]
    simp only [getS]
    have e : 2 ^ (7 * (i + 1)) = 2 ^ (7 * i) * 128 := by rw [show 7 * (i + 1) = 7 * i + 7 from by omega, Nat.pow_add]
    have body : (i = 9 → c ≤ 1) → word_Get.j1 (k + 1) (n : Int) (i : Int) (c : Int) l (l.length : Int) (i : Int) false = some (if (c : Int) < 128 then (if (c : Int) = 0 ∧ 0 < i then (0, 0, 11) else (((n + (c : Int).toNat * 2 ^ (7 * i) : Nat) : Int), ((i + 1 : Nat) : Int), 0)) else getS rest (i + 1) (n + (c : Int).toNat % 128 * 2 ^ (7 * i))) := by
      intro h9
      obtain ⟨o1, o2⟩ := get_or c i n (by omega) hi h9 hn
      simp only [word_Get.j1]
      rw [if_neg (by decide), o1, wrap64_id (by omega) (by omega), u64w_id (by omega) (by omega), if_pos (by omega), wrap64_id (n := (i : Int) + 1) (by omega) (by omega)]
      rw [show ((c : Int)).toNat = c from by omega]
      by_cases h1 : (c : Int) < 128
      · rw [if_pos (by omega), if_pos h1, Nat.mod_eq_of_lt (show c < 128 by omega)]
        by_cases h2 : (c : Int) = 0
        · rw [if_pos h2]
          by_cases h3 : (i : Int) > 0
          · rw [if_pos h3, if_pos ⟨h2, by omega⟩]
          · rw [if_neg h3, if_neg (by omega)]; rfl
        · rw [if_neg h2, if_neg (by omega)]; rfl
      · rw [if_neg (by omega), if_neg h1, show (i : Int) + 1 = ((i + 1 : Nat) : Int) from by omega]
        have hm : c % 128 * 2 ^ (7 * i) ≤ 127 * 2 ^ (7 * i) := Nat.mul_le_mul_right _ (by omega)
        simp only [List.length_cons] at hk
        exact get_l0 l hl hb rest (i + 1) _ k hd2 (by omega) (by rw [e]; omega) (by omega)
    by_cases h9 : i = 9
    · rw [if_pos (by omega)]
      by_cases h1 : (c : Int) > 1
      · rw [decide_eq_true h1, if_pos ⟨h9, h1⟩]
        simp only [word_Get.j1]
        rw [if_true]
      · rw [decide_eq_false h1, if_neg (by omega)]
        exact body (by omega)
    · rw [if_neg (by omega), if_neg (by omega)]
      exact body (by omega)
theorem get_tells (l : List Int) (hl : l.length ≤ 140737488355320) (hb : ∀ x ∈ l, 0 ≤ x ∧ x < 256) (k : Nat) (hk : 2 * l.length + 2 < k) : word_Get.f k l = some (getS l 0 0) := by
  unfold word_Get.f
  exact get_l0 l hl hb l 0 0 k rfl (by omega) (by simp) hk

theorem WordBack : organonlaw01_WordBack.Pure := by
  intro n l wn hl hl2 hb
  obtain ⟨a0, a1⟩ := wf_u64 wn
  obtain ⟨n, rfl⟩ := Int.eq_ofNat_of_zero_le a0
  have hn : n < 18446744073709551616 := by omega
  have hb' : ∀ x ∈ l, 0 ≤ x ∧ x < 256 := fun x hx => wf_u8 (hb x hx)
  have hsb := sev_bytes10 n hn
  obtain ⟨s1, s2⟩ := sev_len10 n hn
  have hf : n < 128 ^ (9 + 1) := Nat.lt_of_lt_of_le hn (by decide)
  have g1 := getS_sev l 9 n 0 0 hf (by omega) (by simpa using hn) (by omega)
  have g2 := getS_short 9 n 0 0 hf (by omega) (by simpa using hn)
  obtain ⟨K, hK⟩ : ∃ K : Nat, 3 * l.length + 1000 ≤ K := ⟨_, Nat.le_refl _⟩
  refine ⟨K + 2, ?_⟩
  unfold organonlaw01_WordBack.f
  rw [put_tells n hn _ (by omega), some_bind, if_neg (by omega), decide_eq_false (by omega)]
  simp only [organonlaw01_WordBack.j0]
  rw [if_neg (by decide), some_bind, List.length_nil, if_pos (by omega), some_bind, List.nil_append, if_pos (by omega)]
  have hall : ∀ x ∈ sev n ++ l, 0 ≤ x ∧ x < 256 := by
    intro x hx
    rcases List.mem_append.1 hx with h | h
    · exact hsb x h
    · exact hb' x h
  rw [get_tells (sev n ++ l) (by rw [List.length_append]; omega) hall (K + 1) (by rw [List.length_append]; omega), some_bind, g1]
  have g3 : ((0 + n * 2 ^ (7 * 0) : Nat) : Int) = (n : Int) := by simp
  simp only [g3]
  rw [if_true, if_pos (by omega), bne_self_eq_false]
  simp only [organonlaw01_WordBack.j1]
  rw [if_neg (by decide), wrap64_id (by omega) (by omega), if_pos (by omega), if_pos (by omega), show (((sev n).length : Int) - 1).toNat = (sev n).length - 1 from by omega, ← List.dropLast_eq_take]
  rw [get_tells (sev n).dropLast (by rw [List.length_dropLast]; omega) (fun x hx => hsb x ((List.dropLast_sublist _).subset hx)) K (by rw [List.length_dropLast]; omega), some_bind, g2]
  simp only []
  rw [if_true, get_tells l (by omega) hb' K (by omega), some_bind]
  rcases getS_back l 0 0 hb' (by omega) (by simp) with ⟨h1, h2, h3⟩ | ⟨j, w, j1, j2, hg, hs, _, hlt⟩
  · rw [if_neg h1, h2, h3, if_pos rfl]; rfl
  · rw [hg]
    have e1 : ((0 + w * 2 ^ (7 * 0) : Nat) : Int) = (w : Int) := by simp
    simp only [e1]
    rw [if_true, if_pos (by omega), if_pos (by omega), put_tells w (by simpa using hlt) K (by omega), some_bind, if_pos (by omega), show (((0 + j : Nat) : Int)).toNat = j from by omega, hs]
    unfold organonlaw01_sameBytes.f
    rw [some_bind, beq_self_eq_true]

end Go.Proofs.Ytcnhcfmmlonjjaa.Pure
