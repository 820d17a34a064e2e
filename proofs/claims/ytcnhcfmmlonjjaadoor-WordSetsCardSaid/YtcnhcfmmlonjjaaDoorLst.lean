/- Plain lemmas on the numbers of a word's bits: no program in sight. -/
import Derived.Test.YtcnhcfmmlonjjaaDoorRot
namespace Go.Proofs.YtcnhcfmmlonjjaaDoor.Lst
open Go.RowKit Go.Proofs.YtcnhcfmmlonjjaaDoorW.PrintWords Go.Proofs.YtcnhcfmmlonjjaaDoorW.PrintLast Go.Proofs.YtcnhcfmmlonjjaaDoor.Base Go.Proofs.YtcnhcfmmlonjjaaDoor.Rot

/-- The bits of a word below i, rising. -/
def lstUp (s : Nat) : Nat → List Int
  | 0 => []
  | i + 1 => lstUp s i ++ (if s / 2 ^ i % 2 = 1 then [(i : Int)] else [])
theorem lstUp_succ (s i : Nat) : lstUp s (i + 1) = lstUp s i ++ (if s / 2 ^ i % 2 = 1 then [(i : Int)] else []) := rfl
theorem lstUp_len (s i : Nat) : (lstUp s i).length = cnt i s := by
  induction i with
  | zero => rfl
  | succ i ih =>
    simp only [lstUp, List.length_append]
    rw [cnt_succ', ih]
    rcases Nat.mod_two_eq_zero_or_one (s / 2 ^ i) with h | h
    · rw [h]; simp
    · rw [h]; simp
theorem lstUp_mem {s i : Nat} {x : Int} (h : x ∈ lstUp s i) : ∃ n : Nat, x = (n : Int) ∧ n < i ∧ s / 2 ^ n % 2 = 1 := by
  induction i with
  | zero => cases h
  | succ i ih =>
    simp only [lstUp] at h
    rcases List.mem_append.1 h with h | h
    · obtain ⟨n, h1, h2, h3⟩ := ih h
      exact ⟨n, h1, by omega, h3⟩
    · split at h
      · rename_i hb
        exact ⟨i, by simpa using h, by omega, hb⟩
      · cases h
theorem lstUp_rises (s i : Nat) : (lstUp s i).Pairwise (· < ·) := by
  induction i with
  | zero => exact List.Pairwise.nil
  | succ i ih =>
    simp only [lstUp]
    rw [List.pairwise_append]
    refine ⟨ih, ?_, ?_⟩
    · split
      · exact List.pairwise_singleton _ _
      · exact List.Pairwise.nil
    · intro x hx y hy
      obtain ⟨n, h1, h2, _⟩ := lstUp_mem hx
      split at hy
      · have : y = (i : Int) := by simpa using hy
        omega
      · cases hy
/-- The word that some numbers make. -/
def orAll (a : Nat) (l : List Int) : Nat := l.foldl (fun a e => a ||| 2 ^ e.toNat) a
theorem orAll_snoc (a : Nat) (l : List Int) (e : Int) : orAll a (l ++ [e]) = orAll a l ||| 2 ^ e.toNat := by
  unfold orAll; rw [List.foldl_append, List.foldl_cons, List.foldl_nil]
theorem orAll_lst (s i : Nat) : orAll 0 (lstUp s i) = s % 2 ^ i := by
  induction i with
  | zero => simp [orAll, lstUp, Nat.mod_one]
  | succ i ih =>
    simp only [lstUp]
    have hm : s % 2 ^ i < 2 ^ i := Nat.mod_lt _ (Nat.two_pow_pos i)
    rw [Nat.mod_pow_succ]
    rcases Nat.mod_two_eq_zero_or_one (s / 2 ^ i) with h | h
    · rw [h, if_neg (by decide), List.append_nil, ih]; simp
    · rw [h, if_pos rfl, orAll_snoc, ih, Nat.or_comm, show ((i : Int)).toNat = i from by omega, nat_or_add (2 ^ i) (s % 2 ^ i) i (Nat.mod_self _) hm]; omega
theorem orAll_lt (l : List Int) (a : Nat) (ha : a < 18446744073709551616) (hl : ∀ x ∈ l, 0 ≤ x ∧ x ≤ 63) : orAll a l < 18446744073709551616 := by
  induction l generalizing a with
  | nil => exact ha
  | cons e l ih =>
    have e1 : orAll a (e :: l) = orAll (a ||| 2 ^ e.toNat) l := by unfold orAll; rw [List.foldl_cons]
    rw [e1]
    have he := hl e (by simp)
    have hp : 2 ^ e.toNat < 2 ^ 64 := Nat.pow_lt_pow_right (by decide) (by omega)
    have ho := Nat.or_lt_two_pow (n := 64) (show a < 2 ^ 64 by simpa using ha) hp
    exact ih _ (by simpa using ho) (fun x hx => hl x (by simp [hx]))
/-- Is the bit there? -/
theorem and_bit (s n : Nat) : (s &&& 2 ^ n ≠ 0) ↔ s / 2 ^ n % 2 = 1 := by
  have ht : s.testBit n = decide (s / 2 ^ n % 2 = 1) := Nat.testBit_eq_decide_div_mod_eq
  constructor
  · intro h
    rcases Nat.mod_two_eq_zero_or_one (s / 2 ^ n) with h0 | h0
    · exfalso; apply h
      apply Nat.eq_of_testBit_eq
      intro j
      rw [Nat.testBit_and, Nat.testBit_two_pow, Nat.zero_testBit]
      by_cases hj : n = j
      · subst hj; rw [ht, h0]; rfl
      · simp [hj]
    · exact h0
  · intro h h0
    have h1 := congrArg (fun x => Nat.testBit x n) h0
    simp only [Nat.testBit_and, Nat.testBit_two_pow, Nat.zero_testBit] at h1
    rw [ht, h] at h1
    simp at h1
end Go.Proofs.YtcnhcfmmlonjjaaDoor.Lst
