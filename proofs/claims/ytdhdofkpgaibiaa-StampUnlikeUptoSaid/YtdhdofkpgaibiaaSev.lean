/- Plain lemmas on numbers written in sevens: no program in sight. -/
import Derived.Test.YtdhdofkpgaibiaaBase
namespace Go.Proofs.Ytdhdofkpgaibiaa.Sev
open Go.RowKit Go.Proofs.YtdhdofkpgaibiaaW.PrintWords Go.Proofs.YtdhdofkpgaibiaaW.PrintLast Go.Proofs.Ytdhdofkpgaibiaa.Base

/-- A number in sevens. -/
def sev (n : Nat) : List Int := if h : n < 128 then [(n : Int)] else ((n % 128 + 128 : Nat) : Int) :: sev (n / 128)
  termination_by n
  decreasing_by omega
theorem sev_small {n : Nat} (h : n < 128) : sev n = [(n : Int)] := by rw [sev, dif_pos h]
theorem sev_big {n : Nat} (h : ¬ n < 128) : sev n = ((n % 128 + 128 : Nat) : Int) :: sev (n / 128) := by rw [sev, dif_neg h]
theorem sev_len (f : Nat) : ∀ n : Nat, n < 128 ^ (f + 1) → 1 ≤ (sev n).length ∧ (sev n).length ≤ f + 1 := by
  induction f with
  | zero =>
    intro n h
    rw [sev_small (by simpa using h)]
    exact ⟨Nat.le_refl _, Nat.le_refl _⟩
  | succ f ih =>
    intro n h
    by_cases hs : n < 128
    · rw [sev_small hs]; exact ⟨Nat.le_refl _, by simp⟩
    · rw [sev_big hs]
      have := ih (n / 128) (by rw [Nat.div_lt_iff_lt_mul (by decide), ← Nat.pow_succ]; exact h)
      simp only [List.length_cons]; omega
theorem sev_len10 (n : Nat) (h : n < 18446744073709551616) : 1 ≤ (sev n).length ∧ (sev n).length ≤ 10 :=
  sev_len 9 n (Nat.lt_of_lt_of_le h (by decide))
theorem sev_bytes (f : Nat) : ∀ n : Nat, n < 128 ^ (f + 1) → ∀ x ∈ sev n, 0 ≤ x ∧ x < 256 := by
  induction f with
  | zero =>
    intro n h x hx
    rw [sev_small (by simpa using h)] at hx
    have : n < 128 := by simpa using h
    simp at hx; omega
  | succ f ih =>
    intro n h x hx
    by_cases hs : n < 128
    · rw [sev_small hs] at hx; simp at hx; omega
    · rw [sev_big hs] at hx
      rcases List.mem_cons.1 hx with h1 | h1
      · omega
      · exact ih (n / 128) (by rw [Nat.div_lt_iff_lt_mul (by decide), ← Nat.pow_succ]; exact h) x h1
theorem sev_bytes10 (n : Nat) (h : n < 18446744073709551616) : ∀ x ∈ sev n, 0 ≤ x ∧ x < 256 :=
  sev_bytes 9 n (Nat.lt_of_lt_of_le h (by decide))
/-- What is read of bytes, behind i of them that made n. -/
def getS : List Int → Nat → Nat → Int × Int × Int
  | [], _, _ => (0, 0, 10)
  | c :: l, i, n =>
    if i = 9 ∧ 1 < c then (0, 0, 11)
    else if c < 128 then (if c = 0 ∧ 0 < i then (0, 0, 11) else (((n + c.toNat * 2 ^ (7 * i) : Nat) : Int), ((i + 1 : Nat) : Int), 0))
    else getS l (i + 1) (n + c.toNat % 128 * 2 ^ (7 * i))
theorem getS_sev (more : List Int) (f : Nat) : ∀ (n i m : Nat), n < 128 ^ (f + 1) → i ≤ 9 → n * 2 ^ (7 * i) < 18446744073709551616 → (0 < i → 0 < n) →
    getS (sev n ++ more) i m = (((m + n * 2 ^ (7 * i) : Nat) : Int), ((i + (sev n).length : Nat) : Int), 0) := by
  induction f with
  | zero =>
    intro n i m h hi hb hp
    have hs : n < 128 := by simpa using h
    rw [sev_small hs]
    simp only [List.cons_append, getS]
    have h9 : i = 9 → n ≤ 1 := by
      intro h; subst h; simp only [Nat.reduceMul, Nat.reducePow] at hb; omega
    rw [if_neg (by omega), if_pos (by omega), if_neg (by omega)]
    simp
  | succ f ih =>
    intro n i m h hi hb hp
    have h9 : i = 9 → n ≤ 1 := by
      intro h; subst h; simp only [Nat.reduceMul, Nat.reducePow] at hb; omega
    by_cases hs : n < 128
    · rw [sev_small hs]
      simp only [List.cons_append, getS]
      rw [if_neg (by omega), if_pos (by omega), if_neg (by omega)]
      simp
    · rw [sev_big hs]
      simp only [List.cons_append, getS]
      have e : 2 ^ (7 * (i + 1)) = 2 ^ (7 * i) * 128 := by rw [show 7 * (i + 1) = 7 * i + 7 from by omega, Nat.pow_add]
      have hle : n / 128 * 2 ^ (7 * (i + 1)) ≤ n * 2 ^ (7 * i) := by
        rw [e, Nat.mul_comm (2 ^ (7 * i)) 128, ← Nat.mul_assoc]
        exact Nat.mul_le_mul_right _ (Nat.div_mul_le_self _ _)
      rw [if_neg (by omega), if_neg (by omega), ih (n / 128) (i + 1) _ (by rw [Nat.div_lt_iff_lt_mul (by decide), ← Nat.pow_succ]; exact h) (by omega) (Nat.lt_of_le_of_lt hle hb) (by omega)]
      have e2 : ((n % 128 + 128 : Nat) : Int).toNat % 128 = n % 128 := by omega
      rw [e2, e]
      have e3 : n * 2 ^ (7 * i) = n % 128 * 2 ^ (7 * i) + n / 128 * (2 ^ (7 * i) * 128) := by
        rw [Nat.mul_comm (2 ^ (7 * i)) 128, ← Nat.mul_assoc, ← Nat.add_mul]
        congr 1; omega
      rw [e3]
      simp only [List.length_cons]
      refine Prod.ext ?_ (Prod.ext ?_ rfl)
      · show ((_ : Nat) : Int) = ((_ : Nat) : Int)
        congr 1; omega
      · show ((_ : Nat) : Int) = ((_ : Nat) : Int)
        congr 1; omega
/-- Cut short it is refused. -/
theorem getS_short (f : Nat) : ∀ (n i m : Nat), n < 128 ^ (f + 1) → i ≤ 9 → n * 2 ^ (7 * i) < 18446744073709551616 → getS (sev n).dropLast i m = (0, 0, 10) := by
  induction f with
  | zero =>
    intro n i m h hi hb
    have hs : n < 128 := by simpa using h
    rw [sev_small hs]; rfl
  | succ f ih =>
    intro n i m h hi hb
    by_cases hs : n < 128
    · rw [sev_small hs]; rfl
    · have h9 : i ≠ 9 := by
        intro h; subst h; simp only [Nat.reduceMul, Nat.reducePow] at hb; omega
      have hl : n / 128 < 128 ^ (f + 1) := by rw [Nat.div_lt_iff_lt_mul (by decide), ← Nat.pow_succ]; exact h
      have hne : sev (n / 128) ≠ [] := by
        intro h0
        have := (sev_len f (n / 128) hl).1
        rw [h0] at this; simp at this
      rw [sev_big hs, List.dropLast_cons_of_ne_nil hne]
      simp only [getS]
      have e : 2 ^ (7 * (i + 1)) = 2 ^ (7 * i) * 128 := by rw [show 7 * (i + 1) = 7 * i + 7 from by omega, Nat.pow_add]
      have hle : n / 128 * 2 ^ (7 * (i + 1)) ≤ n * 2 ^ (7 * i) := by
        rw [e, Nat.mul_comm (2 ^ (7 * i)) 128, ← Nat.mul_assoc]
        exact Nat.mul_le_mul_right _ (Nat.div_mul_le_self _ _)
      rw [if_neg (by omega), if_neg (by omega)]
      exact ih (n / 128) (i + 1) _ hl (by omega) (Nat.lt_of_le_of_lt hle hb)
/-- What is read is written just so; and what is refused tells nothing. -/
theorem getS_back : ∀ (l : List Int) (i n : Nat), (∀ x ∈ l, 0 ≤ x ∧ x < 256) → i ≤ 9 → n < 2 ^ (7 * i) →
    ((getS l i n).2.2 ≠ 0 ∧ (getS l i n).1 = 0 ∧ (getS l i n).2.1 = 0) ∨
    ∃ j w : Nat, 1 ≤ j ∧ j ≤ l.length ∧ getS l i n = (((n + w * 2 ^ (7 * i) : Nat) : Int), ((i + j : Nat) : Int), 0) ∧ sev w = l.take j ∧ (0 < i → 0 < w) ∧ n + w * 2 ^ (7 * i) < 18446744073709551616
  | [], i, n, _, _, _ => .inl ⟨by simp [getS], rfl, rfl⟩
  | c :: l, i, n, hb, hi, hn => by
    obtain ⟨c0, c1⟩ := hb c (by simp)
    have hp : 2 ^ (7 * i) ≤ 2 ^ 63 := Nat.pow_le_pow_right (by decide) (by omega)
    simp only [getS]
    by_cases h1 : i = 9 ∧ 1 < c
    · rw [if_pos h1]; exact .inl ⟨by simp, rfl, rfl⟩
    rw [if_neg h1]
    by_cases h2 : c < 128
    · rw [if_pos h2]
      by_cases h3 : c = 0 ∧ 0 < i
      · rw [if_pos h3]; exact .inl ⟨by simp, rfl, rfl⟩
      · rw [if_neg h3]
        refine .inr ⟨1, c.toNat, Nat.le_refl _, by simp, rfl, ?_, by omega, ?_⟩
        · rw [sev_small (by omega)]
          simp; omega
        · by_cases h9 : i = 9
          · subst h9
            simp only [Nat.reduceMul, Nat.reducePow] at hn ⊢; omega
          · have hp2 : 2 ^ (7 * i) ≤ 2 ^ 56 := Nat.pow_le_pow_right (by decide) (by omega)
            have hm : c.toNat * 2 ^ (7 * i) ≤ 127 * 2 ^ 56 := Nat.mul_le_mul (by omega) hp2
            omega
    · rw [if_neg h2]
      have h9 : i ≠ 9 := by omega
      have e : 2 ^ (7 * (i + 1)) = 2 ^ (7 * i) * 128 := by rw [show 7 * (i + 1) = 7 * i + 7 from by omega, Nat.pow_add]
      have hm : c.toNat % 128 * 2 ^ (7 * i) ≤ 127 * 2 ^ (7 * i) := Nat.mul_le_mul_right _ (by omega)
      rcases getS_back l (i + 1) (n + c.toNat % 128 * 2 ^ (7 * i)) (fun x hx => hb x (by simp [hx])) (by omega) (by rw [e]; omega) with h | ⟨j, w, j1, j2, hg, hs, hw, hlt⟩
      · exact .inl h
      · have hw := hw (by omega)
        have e3 : n + (c.toNat % 128 + 128 * w) * 2 ^ (7 * i) = n + c.toNat % 128 * 2 ^ (7 * i) + w * 2 ^ (7 * (i + 1)) := by
          rw [e, Nat.add_mul, Nat.mul_comm (2 ^ (7 * i)) 128, ← Nat.mul_assoc, Nat.mul_comm w 128]; omega
        refine .inr ⟨j + 1, c.toNat % 128 + 128 * w, by omega, by simp; omega, ?_, ?_, by omega, by rw [e3]; exact hlt⟩
        · rw [hg, e3]
          refine Prod.ext rfl (Prod.ext ?_ rfl)
          show ((_ : Nat) : Int) = ((_ : Nat) : Int)
          congr 1; omega
        · rw [sev_big (by omega), List.take_succ_cons, show (c.toNat % 128 + 128 * w) / 128 = w from by omega, hs]
          congr 1; omega
end Go.Proofs.Ytdhdofkpgaibiaa.Sev
