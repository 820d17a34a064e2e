/- Plain lemmas on words of 64 bits: turning them, and telling how many bits are set: no program in sight. -/
import Derived.Test.YtdhdofkpgaibiaaBase
namespace Go.Proofs.Ytdhdofkpgaibiaa.Rot
open Go.RowKit Go.Proofs.YtdhdofkpgaibiaaW.PrintWords Go.Proofs.YtdhdofkpgaibiaaW.PrintLast Go.Proofs.Ytdhdofkpgaibiaa.Base

/-- A word turned by one place, and by s places. -/
def rot1 (u : Nat) : Nat := u % 9223372036854775808 * 2 + u / 9223372036854775808
def rotl (u s : Nat) : Nat := u * 2 ^ s % 18446744073709551616 + u / 2 ^ (64 - s)
theorem rot1_lt {u : Nat} (h : u < 18446744073709551616) : rot1 u < 18446744073709551616 := by unfold rot1; omega
/-- A word in two parts: its top s bits and the rest. -/
theorem rotl_parts (u s : Nat) (hs : s ≤ 64) (hu : u < 18446744073709551616) : rotl u s = u % 2 ^ (64 - s) * 2 ^ s + u / 2 ^ (64 - s) ∧ u / 2 ^ (64 - s) < 2 ^ s := by
  have hp : 2 ^ (64 - s) * 2 ^ s = 18446744073709551616 := by rw [← Nat.pow_add, show 64 - s + s = 64 from by omega]
  constructor
  · unfold rotl
    rw [← hp, Nat.mul_mod_mul_right]
  · rw [Nat.div_lt_iff_lt_mul (Nat.two_pow_pos _), Nat.mul_comm, hp]; exact hu
theorem rotl_lt (u s : Nat) (hs : s ≤ 64) (hu : u < 18446744073709551616) : rotl u s < 18446744073709551616 := by
  obtain ⟨h1, h2⟩ := rotl_parts u s hs hu
  have hp : 2 ^ (64 - s) * 2 ^ s = 18446744073709551616 := by rw [← Nat.pow_add, show 64 - s + s = 64 from by omega]
  have hm : u % 2 ^ (64 - s) < 2 ^ (64 - s) := Nat.mod_lt _ (Nat.two_pow_pos _)
  rw [h1, ← hp]
  have : (u % 2 ^ (64 - s) + 1) * 2 ^ s ≤ 2 ^ (64 - s) * 2 ^ s := Nat.mul_le_mul_right _ hm
  rw [Nat.add_mul] at this
  omega
theorem rotl_zero (u : Nat) (hu : u < 18446744073709551616) : rotl u 0 = u := by
  unfold rotl; simp; omega
theorem rotl_succ (u s : Nat) (hs : s ≤ 63) (hu : u < 18446744073709551616) : rot1 (rotl u s) = rotl u (s + 1) := by
  obtain ⟨h1, h2⟩ := rotl_parts u s (by omega) hu
  obtain ⟨h3, h4⟩ := rotl_parts u (s + 1) (by omega) hu
  rw [h1, h3]
  have e1 : (2 : Nat) ^ (64 - s) = 2 ^ (64 - (s + 1)) * 2 := by rw [show 64 - s = 64 - (s + 1) + 1 from by omega, Nat.pow_succ]
  have e2 : (2 : Nat) ^ (s + 1) = 2 ^ s * 2 := Nat.pow_succ 2 s
  have e3 : 2 ^ (64 - (s + 1)) * 2 ^ s = 9223372036854775808 := by rw [← Nat.pow_add, show 64 - (s + 1) + s = 63 from by omega]
  clear h1 h3 h4
  rw [e1] at h2 ⊢
  rw [e2]
  clear e1 e2
  generalize 2 ^ (64 - (s + 1)) = q at *
  generalize 2 ^ s = t at *
  have hq : 0 < q := by
    rcases Nat.eq_zero_or_pos q with h | h
    · subst h; simp at e3
    · exact h
  have e4 : u / q = 2 * (u / (q * 2)) + u / q % 2 := by
    have := Nat.div_add_mod (u / q) 2
    rw [Nat.div_div_eq_div_mul] at this; omega
  have e5 : u % (q * 2) = q * (u / q % 2) + u % q := by
    have a1 := Nat.div_add_mod u (q * 2)
    have a2 := Nat.div_add_mod u q
    rw [e4, Nat.mul_add, ← Nat.mul_assoc] at a2
    omega
  have hr : u % q < q := Nat.mod_lt _ hq
  generalize u / (q * 2) = a at *
  generalize hb : u / q % 2 = b at *
  generalize u % q = r at *
  rw [e5]
  rw [e4]
  have hb2 : b < 2 := by omega
  have hrt : (r + 1) * t ≤ q * t := Nat.mul_le_mul_right _ hr
  rw [Nat.add_mul] at hrt
  have e6 : (q * b + r) * t = 9223372036854775808 * b + r * t := by
    rw [Nat.add_mul, Nat.mul_assoc, Nat.mul_comm b t, ← Nat.mul_assoc, e3]
  rw [e6]
  have e7 : r * (t * 2) = r * t * 2 := by rw [Nat.mul_assoc]
  rw [e7]
  unfold rot1
  generalize r * t = x at *
  omega

/-- How many of a number's lowest bits are set. -/
def cnt : Nat → Nat → Nat
  | 0, _ => 0
  | n + 1, x => x % 2 + cnt n (x / 2)
theorem cnt_low (n x : Nat) : cnt n (x % 2 ^ n) = cnt n x := by
  induction n generalizing x with
  | zero => rfl
  | succ n ih =>
    simp only [cnt]
    have e : x % 2 ^ (n + 1) / 2 = x / 2 % 2 ^ n := by
      rw [Nat.pow_succ, Nat.mul_comm, Nat.mod_mul_right_div_self]
    have e2 : x % 2 ^ (n + 1) % 2 = x % 2 := Nat.mod_mod_of_dvd _ ⟨2 ^ n, by rw [Nat.pow_succ, Nat.mul_comm]⟩
    rw [e, e2, ih]
theorem cnt_add (n m x : Nat) : cnt (n + m) x = cnt n x + cnt m (x / 2 ^ n) := by
  induction n generalizing x with
  | zero => simp [cnt]
  | succ n ih =>
    rw [show n + 1 + m = (n + m) + 1 from by omega]
    simp only [cnt]
    rw [ih, Nat.div_div_eq_div_mul, Nat.pow_succ, Nat.mul_comm 2]; omega
theorem cnt_le (n x : Nat) : cnt n x ≤ n := by
  induction n generalizing x with
  | zero => exact Nat.le_refl _
  | succ n ih => simp only [cnt]; have := ih (x / 2); omega
theorem cnt_top (n x b : Nat) (hx : x < 2 ^ n) : cnt (n + 1) (b * 2 ^ n + x) = cnt n x + b % 2 := by
  rw [cnt_add, ← cnt_low n (b * 2 ^ n + x), Nat.mul_comm b, Nat.mul_add_mod, Nat.mod_eq_of_lt hx, Nat.mul_add_div (Nat.two_pow_pos _), Nat.div_eq_of_lt hx]
  simp [cnt]
theorem cnt_rot1 (u : Nat) (hu : u < 18446744073709551616) : cnt 64 (rot1 u) = cnt 64 u := by
  have h1 := cnt_top 63 (u % 9223372036854775808) (u / 9223372036854775808) (by omega)
  rw [show u / 9223372036854775808 * 2 ^ 63 + u % 9223372036854775808 = u from by omega] at h1
  rw [h1]
  show (rot1 u) % 2 + cnt 63 (rot1 u / 2) = _
  unfold rot1
  rw [show (u % 9223372036854775808 * 2 + u / 9223372036854775808) / 2 = u % 9223372036854775808 from by omega]; omega
theorem cnt_rotl (u : Nat) (hu : u < 18446744073709551616) (s : Nat) (hs : s ≤ 64) : cnt 64 (rotl u s) = cnt 64 u := by
  induction s with
  | zero => rw [rotl_zero u hu]
  | succ s ih =>
    rw [← rotl_succ u s (by omega) hu, cnt_rot1 _ (rotl_lt u s (by omega) hu)]
    exact ih (by omega)

/-! The count of bits in parallel, byte by byte. -/
theorem and_split (y M b m : Nat) (hb : b < 256) (hm : m < 256) : (256 * y + b) &&& (256 * M + m) = 256 * (y &&& M) + (b &&& m) := by
  have h1 : b &&& m < 256 := Nat.lt_of_le_of_lt Nat.and_le_left hb
  have e1 : ((256 * y + b) &&& (256 * M + m)) / 256 = y &&& M := by
    have := Nat.and_div_two_pow (a := 256 * y + b) (b := 256 * M + m) (n := 8)
    simp only [Nat.reducePow] at this
    rw [this]; congr 1 <;> omega
  have e2 : ((256 * y + b) &&& (256 * M + m)) % 256 = b &&& m := by
    have := Nat.and_mod_two_pow (a := 256 * y + b) (b := 256 * M + m) (n := 8)
    simp only [Nat.reducePow] at this
    rw [this]; congr 1 <;> omega
  omega
def byte1 (b : Nat) : Nat := (b / 2 &&& 85) + (b &&& 85)
def byte2 (b : Nat) : Nat := (b / 4 &&& 51) + (b &&& 51)
def byte3 (b : Nat) : Nat := (b / 16 + b) &&& 15
theorem byte_facts : ∀ b, b < 256 → byte1 b ≤ 170 ∧ byte2 (byte1 b) ≤ 68 ∧ byte2 (byte1 b) % 16 ≤ 4 ∧ byte3 (byte2 (byte1 b)) = cnt 8 b := by decide +kernel
theorem half_facts : ∀ b, b < 128 → (b &&& 85) = ((b + 128) &&& 85) := by decide +kernel
theorem quarter_facts : ∀ b, b < 64 → (b &&& 51) = ((b + 64) &&& 51) ∧ (b &&& 51) = ((b + 128) &&& 51) ∧ (b &&& 51) = ((b + 192) &&& 51) := by decide +kernel
theorem nibble_facts : ∀ b, b < 256 → b &&& 15 = b % 16 := by decide +kernel
/-- masks of j bytes -/
def mask : Nat → Nat → Nat
  | _, 0 => 0
  | m, j + 1 => 256 * mask m j + m
def ofBytes : List Nat → Nat
  | [] => 0
  | b :: l => 256 * ofBytes l + b
theorem step1 (l : List Nat) (hl : ∀ b ∈ l, b < 256) : (ofBytes l / 2 &&& mask 85 l.length) + (ofBytes l &&& mask 85 l.length) = ofBytes (l.map byte1) := by
  induction l with
  | nil => rfl
  | cons b l ih =>
    have hb := hl b (by simp)
    have ih := ih (fun x hx => hl x (by simp [hx]))
    simp only [ofBytes, List.length_cons, mask, List.map_cons]
    rw [and_split _ _ _ _ hb (by decide)]
    have e : (256 * ofBytes l + b) / 2 = 256 * (ofBytes l / 2) + (b / 2 + 128 * (ofBytes l % 2)) := by omega
    rw [e, and_split _ _ _ _ (by omega) (by decide)]
    have e2 : (b / 2 + 128 * (ofBytes l % 2)) &&& 85 = b / 2 &&& 85 := by
      rcases Nat.mod_two_eq_zero_or_one (ofBytes l) with h | h
      · rw [h]; rfl
      · rw [h]; exact (half_facts (b / 2) (by omega)).symm
    rw [e2, ← ih]; unfold byte1; omega
theorem step2 (l : List Nat) (hl : ∀ b ∈ l, b < 256) : (ofBytes l / 4 &&& mask 51 l.length) + (ofBytes l &&& mask 51 l.length) = ofBytes (l.map byte2) := by
  induction l with
  | nil => rfl
  | cons b l ih =>
    have hb := hl b (by simp)
    have ih := ih (fun x hx => hl x (by simp [hx]))
    simp only [ofBytes, List.length_cons, mask, List.map_cons]
    rw [and_split _ _ _ _ hb (by decide)]
    have e : (256 * ofBytes l + b) / 4 = 256 * (ofBytes l / 4) + (b / 4 + 64 * (ofBytes l % 4)) := by omega
    rw [e, and_split _ _ _ _ (by omega) (by decide)]
    have e2 : (b / 4 + 64 * (ofBytes l % 4)) &&& 51 = b / 4 &&& 51 := by
      obtain ⟨f1, f2, f3⟩ := quarter_facts (b / 4) (by omega)
      have h : ofBytes l % 4 < 4 := Nat.mod_lt _ (by decide)
      generalize ofBytes l % 4 = c at *
      match c, h with
      | 0, _ => rfl
      | 1, _ => exact f1.symm
      | 2, _ => exact f2.symm
      | 3, _ => exact f3.symm
    rw [e2, ← ih]; unfold byte2; omega
theorem step3 (l : List Nat) (hl : ∀ b ∈ l, b ≤ 68 ∧ b % 16 ≤ 4) : (ofBytes l / 16 + ofBytes l) &&& mask 15 l.length = ofBytes (l.map byte3) ∧ ofBytes l % 16 ≤ 4 := by
  induction l with
  | nil => exact ⟨rfl, by decide⟩
  | cons b l ih =>
    obtain ⟨h1, h2⟩ := hl b (by simp)
    obtain ⟨ih, ih2⟩ := ih (fun x hx => hl x (by simp [hx]))
    simp only [ofBytes, List.length_cons, mask, List.map_cons]
    refine ⟨?_, by omega⟩
    have e : (256 * ofBytes l + b) / 16 + (256 * ofBytes l + b) = 256 * (ofBytes l / 16 + ofBytes l) + (b / 16 + b + 16 * (ofBytes l % 16)) := by omega
    rw [e, and_split _ _ _ _ (by omega) (by decide), ih]
    unfold byte3
    rw [nibble_facts _ (by omega), nibble_facts _ (by omega)]; omega
/-- The count of bits in parallel, over numbers without bounds. -/
def par (x : Nat) : Nat :=
  let x1 := (x / 2 &&& 6148914691236517205) + (x &&& 6148914691236517205)
  let x2 := (x1 / 4 &&& 3689348814741910323) + (x1 &&& 3689348814741910323)
  let x3 := (x2 / 16 + x2) &&& 1085102592571150095
  let x4 := x3 + x3 / 256
  let x5 := x4 + x4 / 65536
  (x5 + x5 / 4294967296) % 128
theorem cnt_byte (y b : Nat) (n : Nat) (hb : b < 256) : cnt (8 + n) (256 * y + b) = cnt 8 b + cnt n y := by
  rw [cnt_add, ← cnt_low 8 (256 * y + b)]
  simp only [Nat.reducePow]
  rw [show (256 * y + b) % 256 = b from by omega, show (256 * y + b) / 256 = y from by omega]
theorem bytes_of (x : Nat) (hx : x < 18446744073709551616) : ∃ a b c d e f g h, a < 256 ∧ b < 256 ∧ c < 256 ∧ d < 256 ∧ e < 256 ∧ f < 256 ∧ g < 256 ∧ h < 256 ∧ x = ofBytes [a, b, c, d, e, f, g, h] := by
  refine ⟨x % 256, x / 256 % 256, x / 65536 % 256, x / 16777216 % 256, x / 4294967296 % 256, x / 1099511627776 % 256, x / 281474976710656 % 256, x / 72057594037927936, by omega, by omega, by omega, by omega, by omega, by omega, by omega, by omega, ?_⟩
  simp only [ofBytes]; omega
theorem sum_bytes (a b c d e f g h : Nat) (ha : a ≤ 8) (hb : b ≤ 8) (hc : c ≤ 8) (hd : d ≤ 8) (he : e ≤ 8) (hf : f ≤ 8) (hg : g ≤ 8) (hh : h ≤ 8) (x x4 x5 : Nat) (hx : x = ofBytes [a, b, c, d, e, f, g, h]) (h4 : x4 = x + x / 256) (h5 : x5 = x4 + x4 / 65536) :
    (x5 + x5 / 4294967296) % 128 = a + b + c + d + e + f + g + h := by
  simp only [ofBytes] at hx
  have e0 : x / 256 = b + 256 * c + 65536 * d + 16777216 * e + 4294967296 * f + 1099511627776 * g + 281474976710656 * h := by omega
  have e4 : x4 = (a + b) + 256 * (b + c) + 65536 * (c + d) + 16777216 * (d + e) + 4294967296 * (e + f) + 1099511627776 * (f + g) + 281474976710656 * (g + h) + 72057594037927936 * h := by omega
  clear h4 hx e0
  have e1 : x4 / 65536 = (c + d) + 256 * (d + e) + 65536 * (e + f) + 16777216 * (f + g) + 4294967296 * (g + h) + 1099511627776 * h := by omega
  have e5 : x5 = (a + b + c + d) + 256 * (b + c + d + e) + 65536 * (c + d + e + f) + 16777216 * (d + e + f + g) + 4294967296 * (e + f + g + h) + 1099511627776 * (f + g + h) + 281474976710656 * (g + h) + 72057594037927936 * h := by omega
  clear h5 e1 e4
  have e2 : x5 / 4294967296 = (e + f + g + h) + 256 * (f + g + h) + 65536 * (g + h) + 16777216 * h := by omega
  omega
theorem par_cnt (x : Nat) (hx : x < 18446744073709551616) : par x = cnt 64 x := by
  obtain ⟨a, b, c, d, e, f, g, h, ha, hb, hc, hd, he, hf, hg, hh, rfl⟩ := bytes_of x hx
  have hl : ∀ z ∈ [a, b, c, d, e, f, g, h], z < 256 := by simp; omega
  have e1 := step1 _ hl
  have hl1 : ∀ z ∈ [a, b, c, d, e, f, g, h].map byte1, z < 256 := by
    intro z hz
    obtain ⟨y, hy, rfl⟩ := List.mem_map.1 hz
    have := (byte_facts y (hl y hy)).1; omega
  have e2 := step2 _ hl1
  have hl2 : ∀ z ∈ ([a, b, c, d, e, f, g, h].map byte1).map byte2, z ≤ 68 ∧ z % 16 ≤ 4 := by
    intro z hz
    rw [List.map_map] at hz
    obtain ⟨y, hy, rfl⟩ := List.mem_map.1 hz
    have := byte_facts y (hl y hy)
    exact ⟨this.2.1, this.2.2.1⟩
  have e3 := (step3 _ hl2).1
  unfold par
  have m1 : mask 85 [a, b, c, d, e, f, g, h].length = 6148914691236517205 := by simp [mask]
  have m2 : mask 51 ([a, b, c, d, e, f, g, h].map byte1).length = 3689348814741910323 := by simp [mask]
  have m3 : mask 15 (([a, b, c, d, e, f, g, h].map byte1).map byte2).length = 1085102592571150095 := by simp [mask]
  rw [m1] at e1
  rw [m2] at e2
  rw [m3] at e3
  simp only []
  rw [e1, e2, e3]
  simp only [List.map_cons, List.map_nil]
  rw [(byte_facts a ha).2.2.2, (byte_facts b hb).2.2.2, (byte_facts c hc).2.2.2, (byte_facts d hd).2.2.2, (byte_facts e he).2.2.2, (byte_facts f hf).2.2.2, (byte_facts g hg).2.2.2, (byte_facts h hh).2.2.2]
  rw [sum_bytes _ _ _ _ _ _ _ _ (cnt_le 8 a) (cnt_le 8 b) (cnt_le 8 c) (cnt_le 8 d) (cnt_le 8 e) (cnt_le 8 f) (cnt_le 8 g) (cnt_le 8 h) _ _ _ rfl rfl rfl]
  simp only [ofBytes]
  rw [show (64 : Nat) = 8 + (8 + (8 + (8 + (8 + (8 + (8 + (8 + 0))))))) from rfl, cnt_byte _ _ _ ha, cnt_byte _ _ _ hb, cnt_byte _ _ _ hc, cnt_byte _ _ _ hd, cnt_byte _ _ _ he, cnt_byte _ _ _ hf, cnt_byte _ _ _ hg, cnt_byte _ _ _ hh]
  simp only [cnt]; omega
/-- With Go's bounds on each sum. -/
theorem ones_par (x : Nat) (hx : x < 18446744073709551616) : ∃ x1 x2 x3 x4 x5 : Nat, x1 = (x / 2 &&& 6148914691236517205) + (x &&& 6148914691236517205) ∧ x1 < 18446744073709551616 ∧
    x2 = (x1 / 4 &&& 3689348814741910323) + (x1 &&& 3689348814741910323) ∧ x2 < 9223372036854775808 ∧ x3 = (x2 / 16 + x2) &&& 1085102592571150095 ∧ x3 < 1085102592571150096 ∧ x4 = x3 + x3 / 256 ∧ x5 = x4 + x4 / 65536 ∧ (x5 + x5 / 4294967296) % 128 = cnt 64 x := by
  refine ⟨_, _, _, _, _, rfl, ?_, rfl, ?_, rfl, ?_, rfl, rfl, par_cnt x hx⟩
  · have h1 : (x / 2 &&& 6148914691236517205) ≤ 6148914691236517205 := Nat.and_le_right
    have h2 : (x &&& 6148914691236517205) ≤ 6148914691236517205 := Nat.and_le_right
    omega
  · generalize (x / 2 &&& 6148914691236517205) + (x &&& 6148914691236517205) = y
    have h1 : (y / 4 &&& 3689348814741910323) ≤ 3689348814741910323 := Nat.and_le_right
    have h2 : (y &&& 3689348814741910323) ≤ 3689348814741910323 := Nat.and_le_right
    omega
  · exact Nat.lt_succ_of_le Nat.and_le_right
/-- The bit of a number, as div and mod tell it. -/
theorem cnt_succ' (n x : Nat) : cnt (n + 1) x = cnt n x + x / 2 ^ n % 2 := by
  rw [cnt_add]; simp [cnt]
end Go.Proofs.Ytdhdofkpgaibiaa.Rot
