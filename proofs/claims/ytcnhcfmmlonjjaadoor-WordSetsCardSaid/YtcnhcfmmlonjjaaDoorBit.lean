/- Plain lemmas on one bit put into a word, or taken out; on the least bit: no program in sight. -/
import Derived.Test.YtcnhcfmmlonjjaaDoorLst
import Derived.Lib.TrailingZeros
namespace Go.Proofs.YtcnhcfmmlonjjaaDoor.Bit
open Go.RowKit Go.Proofs.YtcnhcfmmlonjjaaDoorW.PrintWords Go.Proofs.YtcnhcfmmlonjjaaDoorW.PrintLast Go.Proofs.YtcnhcfmmlonjjaaDoor.Base Go.Proofs.YtcnhcfmmlonjjaaDoor.Rot Go.Proofs.YtcnhcfmmlonjjaaDoor.Lst

theorem or_one (y : Nat) : y ||| 1 = y + 1 - y % 2 := by
  have h1 := Nat.or_div_two_pow (a := y) (b := 1) (n := 1)
  have h2 := Nat.or_mod_two_pow (a := y) (b := 1) (n := 1)
  simp only [Nat.pow_one] at h1 h2
  rw [show 1 / 2 = 0 from rfl, Nat.or_zero] at h1
  have h3 : y % 2 ||| 1 % 2 = 1 := by
    rcases Nat.mod_two_eq_zero_or_one y with h | h <;> rw [h] <;> rfl
  rw [h3] at h2
  omega
/-- A bit put in. -/
theorem or_bit (a n : Nat) : a ||| 2 ^ n = a + 2 ^ n - a / 2 ^ n % 2 * 2 ^ n := by
  have h1 := Nat.or_div_two_pow (a := a) (b := 2 ^ n) (n := n)
  have h2 := Nat.or_mod_two_pow (a := a) (b := 2 ^ n) (n := n)
  have hp := Nat.two_pow_pos n
  rw [Nat.div_self hp, or_one] at h1
  rw [Nat.mod_self, Nat.or_zero] at h2
  have d1 := Nat.div_add_mod (a ||| 2 ^ n) (2 ^ n)
  have d2 := Nat.div_add_mod a (2 ^ n)
  rw [h1, h2] at d1
  generalize a / 2 ^ n = y at *
  generalize a % 2 ^ n = r at *
  generalize a ||| 2 ^ n = z at *
  generalize 2 ^ n = p at *
  rcases Nat.mod_two_eq_zero_or_one y with h | h
  · rw [h] at d1 ⊢
    rw [Nat.mul_sub, Nat.mul_add] at d1; omega
  · rw [h] at d1 ⊢
    rw [Nat.mul_sub, Nat.mul_add] at d1; omega
/-- A bit taken out. -/
theorem and_not_bit (a n : Nat) (ha : a < 18446744073709551616) (hn : n ≤ 63) : a &&& (18446744073709551615 - 2 ^ n) = a - a / 2 ^ n % 2 * 2 ^ n := by
  have hk : 2 ^ n * 2 ^ (64 - n) = 18446744073709551616 := by rw [← Nat.pow_add, show n + (64 - n) = 64 from by omega]
  have hk1 : 2 ^ (64 - n) = 2 * 2 ^ (63 - n) := by rw [show 64 - n = (63 - n) + 1 from by omega, Nat.pow_succ, Nat.mul_comm]
  have hp := Nat.two_pow_pos n
  have hq := Nat.two_pow_pos (63 - n)
  have hle : 2 ^ n ≤ 2 ^ 63 := Nat.pow_le_pow_right (by decide) hn
  have hm : 18446744073709551615 - 2 ^ n = 2 ^ n * (2 ^ (64 - n) - 2) + (2 ^ n - 1) := by
    rw [Nat.mul_sub, hk]; omega
  have hm1 : (18446744073709551615 - 2 ^ n) / 2 ^ n = 2 ^ (64 - n) - 2 := by
    rw [hm, Nat.mul_add_div hp, Nat.div_eq_of_lt (by omega), Nat.add_zero]
  have hm2 : (18446744073709551615 - 2 ^ n) % 2 ^ n = 2 ^ n - 1 := by
    rw [hm, Nat.mul_add_mod, Nat.mod_eq_of_lt (by omega)]
  have h1 := Nat.and_div_two_pow (a := a) (b := 18446744073709551615 - 2 ^ n) (n := n)
  have h2 := Nat.and_mod_two_pow (a := a) (b := 18446744073709551615 - 2 ^ n) (n := n)
  rw [hm1] at h1
  rw [hm2, Nat.and_two_pow_sub_one_eq_mod, Nat.mod_mod] at h2
  have hy : a / 2 ^ n < 2 ^ (64 - n) := by rw [Nat.div_lt_iff_lt_mul hp, Nat.mul_comm, hk]; exact ha
  have g1 := Nat.and_div_two_pow (a := a / 2 ^ n) (b := 2 ^ (64 - n) - 2) (n := 1)
  have g2 := Nat.and_mod_two_pow (a := a / 2 ^ n) (b := 2 ^ (64 - n) - 2) (n := 1)
  simp only [Nat.pow_one] at g1 g2
  rw [show (2 ^ (64 - n) - 2) / 2 = 2 ^ (63 - n) - 1 from by omega, Nat.and_two_pow_sub_one_eq_mod, Nat.mod_eq_of_lt (by omega)] at g1
  rw [show (2 ^ (64 - n) - 2) % 2 = 0 from by omega, Nat.and_zero] at g2
  have d1 := Nat.div_add_mod (a &&& (18446744073709551615 - 2 ^ n)) (2 ^ n)
  have d2 := Nat.div_add_mod a (2 ^ n)
  rw [h1, h2] at d1
  have e1 : a / 2 ^ n &&& 2 ^ (64 - n) - 2 = a / 2 ^ n - a / 2 ^ n % 2 := by omega
  rw [e1] at d1
  clear h1 h2 g1 g2 hm1 hm2 hm e1 hy
  generalize a &&& (18446744073709551615 - 2 ^ n) = z at *
  generalize a / 2 ^ n = y at *
  generalize a % 2 ^ n = r at *
  generalize 2 ^ n = p at *
  rw [Nat.mul_sub] at d1
  rcases Nat.mod_two_eq_zero_or_one y with h | h
  · rw [h] at d1 ⊢; omega
  · rw [h] at d1 ⊢
    have : p * 1 ≤ p * y := Nat.mul_le_mul_left p (by omega)
    omega
theorem u64_andnot (a b : Nat) (ha : a < 18446744073709551616) (hb : b < 18446744073709551616) : Go.bits .andNot .u64 (a : Int) (b : Int) = ((a &&& (18446744073709551615 - b) : Nat) : Int) := by
  have e1 : a % 2 ^ 64 = a := Nat.mod_eq_of_lt (by simpa using ha)
  have e2 : b % 2 ^ 64 = b := Nat.mod_eq_of_lt (by simpa using hb)
  have f1 : Go.bits .andNot .u64 (a : Int) (b : Int) = IntKind.u64.wrap ((BitVec.ofInt 64 (a : Int) &&& ~~~ BitVec.ofInt 64 (b : Int)).toNat : Int) := rfl
  rw [f1, BitVec.ofInt_natCast, BitVec.ofInt_natCast, BitVec.toNat_and, BitVec.toNat_not, BitVec.toNat_ofNat, BitVec.toNat_ofNat, e1, e2, u64w, show 2 ^ 64 - 1 - b = 18446744073709551615 - b from by omega]
  have h1 : a &&& (18446744073709551615 - b) ≤ a := Nat.and_le_left
  omega

/-- The list of a word's bits begins with the lowest one. -/
theorem lstUp_none (s k : Nat) (h : ∀ j, j < k → s / 2 ^ j % 2 = 0) : lstUp s k = [] := by
  induction k with
  | zero => rfl
  | succ k ih =>
    rw [lstUp_succ, ih (fun j hj => h j (by omega)), h k (by omega)]; rfl
theorem lstUp_head (s k : Nat) (h : ∀ j, j < k → s / 2 ^ j % 2 = 0) (hk : s / 2 ^ k % 2 = 1) (d : Nat) : ∃ l, lstUp s (k + 1 + d) = (k : Int) :: l := by
  induction d with
  | zero => exact ⟨[], by rw [Nat.add_zero, lstUp_succ, lstUp_none s k h, hk]; rfl⟩
  | succ d ih =>
    obtain ⟨l, hl⟩ := ih
    exact ⟨l ++ _, by rw [show k + 1 + (d + 1) = (k + 1 + d) + 1 from by omega, lstUp_succ, hl, List.cons_append]⟩
theorem ctz_head (x : Nat) (hx : x < 18446744073709551616) (h0 : x ≠ 0) : ∃ l, lstUp x 64 = ((Lib.ctz 64 x : Nat) : Int) :: l := by
  obtain ⟨m, hm, hk⟩ := Lib.ctzFrom_spec 64 x (by omega) (by simpa using hx)
  have e : Lib.ctz 64 x = Lib.ctzFrom 64 x := by unfold Lib.ctz; rw [if_neg h0]
  rw [e]
  generalize Lib.ctzFrom 64 x = k at *
  have hb : ∀ j, j < k → x / 2 ^ j % 2 = 0 := by
    intro j hj
    rw [hm, show k = j + ((k - j - 1) + 1) from by omega, Nat.pow_add, Nat.mul_assoc, Nat.mul_div_cancel_left _ (Nat.two_pow_pos j), Nat.pow_succ, Nat.mul_assoc, Nat.mul_comm _ (2 * (2 * m + 1)), Nat.mul_assoc]
    omega
  have hb2 : x / 2 ^ k % 2 = 1 := by
    rw [hm, Nat.mul_div_cancel_left _ (Nat.two_pow_pos k)]; omega
  obtain ⟨l, hl⟩ := lstUp_head x k hb hb2 (63 - k)
  exact ⟨l, by rw [← hl]; congr 1; omega⟩
theorem lstUp_zero (k : Nat) : lstUp 0 k = [] := lstUp_none 0 k (fun j _ => by simp)
end Go.Proofs.YtcnhcfmmlonjjaaDoor.Bit
