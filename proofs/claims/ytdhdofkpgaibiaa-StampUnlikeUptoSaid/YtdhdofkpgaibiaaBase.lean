/- Plain lemmas on the numbers of Go, for the printed functions of this seat: no program in sight. -/
import Derived.Test.YtdhdofkpgaibiaaWMore
import Derived.Laws.BitsLemmas
namespace Go.Proofs.Ytdhdofkpgaibiaa.Base
open Go.RowKit Go.Proofs.YtdhdofkpgaibiaaW.PrintWords Go.Proofs.YtdhdofkpgaibiaaW.PrintLast

/-- Not by rfl: so that simp makes a proof of it, and the kernel has nothing to unfold. -/
theorem some_bind {α β : Type} (a : α) (f : α → Option β) : (some a).bind f = f a := by
  have h := Option.bind_some a f
  rw [h]
theorem wrap64_id {n : Int} (h0 : -9223372036854775808 ≤ n) (h1 : n < 9223372036854775808) : wrap64 n = n := by
  unfold wrap64; omega
theorem u64w (n : Int) : IntKind.u64.wrap n = n % 18446744073709551616 := by
  simp [IntKind.wrap, IntKind.bits, IntKind.signed]
theorem u64w_id {n : Int} (h0 : 0 ≤ n) (h1 : n < 18446744073709551616) : IntKind.u64.wrap n = n := by
  rw [u64w]; omega
theorem u16w (n : Int) : IntKind.u16.wrap n = n % 65536 := by
  simp [IntKind.wrap, IntKind.bits, IntKind.signed]
theorem i64w (n : Int) : IntKind.i64.wrap n = wrap64 n := by
  rw [Go.IntKind.wrap_i64]; unfold wrap64; rfl
theorem wf_u64 {a : Int} (h : (Lit.int .u64 a).wf = true) : 0 ≤ a ∧ a < 18446744073709551616 := by
  simp [Lit.wf, IntKind.min, IntKind.max, IntKind.signed, IntKind.bits] at h; omega
theorem wf_i64 {a : Int} (h : (Lit.int .i64 a).wf = true) : -9223372036854775808 ≤ a ∧ a < 9223372036854775808 := by
  simp [Lit.wf, IntKind.min, IntKind.max, IntKind.signed, IntKind.bits] at h; omega
theorem wf_u8 {a : Int} (h : (Lit.int .u8 a).wf = true) : 0 ≤ a ∧ a < 256 := by
  simp [Lit.wf, IntKind.min, IntKind.max, IntKind.signed, IntKind.bits] at h; omega
theorem wf_u32 {a : Int} (h : (Lit.int .u32 a).wf = true) : 0 ≤ a ∧ a < 4294967296 := by
  simp [Lit.wf, IntKind.min, IntKind.max, IntKind.signed, IntKind.bits] at h; omega

theorem n64_bits (a b : Nat) (ha : a < 18446744073709551616) (hb : b < 18446744073709551616) :
    Go.bits .and .u64 (a : Int) (b : Int) = ((a &&& b : Nat) : Int) ∧ Go.bits .or .u64 (a : Int) (b : Int) = ((a ||| b : Nat) : Int) ∧ Go.bits .xor .u64 (a : Int) (b : Int) = ((a ^^^ b : Nat) : Int) := by
  have ha2 : a < 2 ^ 64 := by simpa using ha
  have hb2 : b < 2 ^ 64 := by simpa using hb
  have e1 : a % 2 ^ 64 = a := Nat.mod_eq_of_lt ha2
  have e2 : b % 2 ^ 64 = b := Nat.mod_eq_of_lt hb2
  have h1 : a &&& b < 2 ^ 64 := Nat.and_lt_two_pow _ hb2
  have h2 : a ||| b < 2 ^ 64 := Nat.or_lt_two_pow ha2 hb2
  have h3 : a ^^^ b < 2 ^ 64 := Nat.xor_lt_two_pow ha2 hb2
  have f1 : Go.bits .and .u64 (a : Int) (b : Int) = IntKind.u64.wrap ((BitVec.ofInt 64 (a : Int) &&& BitVec.ofInt 64 (b : Int)).toNat : Int) := rfl
  have f2 : Go.bits .or .u64 (a : Int) (b : Int) = IntKind.u64.wrap ((BitVec.ofInt 64 (a : Int) ||| BitVec.ofInt 64 (b : Int)).toNat : Int) := rfl
  have f3 : Go.bits .xor .u64 (a : Int) (b : Int) = IntKind.u64.wrap ((BitVec.ofInt 64 (a : Int) ^^^ BitVec.ofInt 64 (b : Int)).toNat : Int) := rfl
  rw [f1, f2, f3, BitVec.ofInt_natCast, BitVec.ofInt_natCast, BitVec.toNat_and, BitVec.toNat_or, BitVec.toNat_xor, BitVec.toNat_ofNat, BitVec.toNat_ofNat, e1, e2, u64w, u64w, u64w]
  simp only [Nat.reducePow] at h1 h2 h3
  omega
theorem n64_and (a b : Nat) (ha : a < 18446744073709551616) (hb : b < 18446744073709551616) : Go.bits .and .u64 (a : Int) (b : Int) = ((a &&& b : Nat) : Int) := (n64_bits a b ha hb).1
theorem n64_or (a b : Nat) (ha : a < 18446744073709551616) (hb : b < 18446744073709551616) : Go.bits .or .u64 (a : Int) (b : Int) = ((a ||| b : Nat) : Int) := (n64_bits a b ha hb).2.1
theorem n64_xor (a b : Nat) (ha : a < 18446744073709551616) (hb : b < 18446744073709551616) : Go.bits .xor .u64 (a : Int) (b : Int) = ((a ^^^ b : Nat) : Int) := (n64_bits a b ha hb).2.2
theorem u64_and1 (a : Int) (h0 : 0 ≤ a) (h1 : a < 18446744073709551616) : Go.bits .and .u64 a 1 = a % 2 := by
  obtain ⟨n, rfl⟩ := Int.eq_ofNat_of_zero_le h0
  have := n64_and n 1 (by omega) (by omega)
  rw [show ((1 : Nat) : Int) = 1 from rfl] at this
  rw [this, Nat.and_one_is_mod]; omega
theorem u64_xor0 (a : Int) (h0 : 0 ≤ a) (h1 : a < 18446744073709551616) : Go.bits .xor .u64 a 0 = a := by
  obtain ⟨n, rfl⟩ := Int.eq_ofNat_of_zero_le h0
  have := n64_xor n 0 (by omega) (by omega)
  rw [show ((0 : Nat) : Int) = 0 from rfl] at this
  rw [this, Nat.xor_zero]
theorem nat_xor_ones (n : Nat) (h : n < 18446744073709551616) : n ^^^ 18446744073709551615 = 18446744073709551615 - n := by
  have h2 := BitVec.xor_allOnes (x := BitVec.ofNat 64 n)
  have h3 := congrArg BitVec.toNat h2
  simp only [BitVec.toNat_xor, BitVec.toNat_not, BitVec.toNat_ofNat, BitVec.toNat_allOnes, Nat.reducePow, Nat.reduceSub] at h3
  rw [Nat.mod_eq_of_lt h] at h3
  exact h3
theorem u64_xor1s (a : Int) (h0 : 0 ≤ a) (h1 : a < 18446744073709551616) : Go.bits .xor .u64 a 18446744073709551615 = 18446744073709551615 - a := by
  obtain ⟨n, rfl⟩ := Int.eq_ofNat_of_zero_le h0
  have := n64_xor n 18446744073709551615 (by omega) (by omega)
  rw [show ((18446744073709551615 : Nat) : Int) = 18446744073709551615 from rfl] at this
  rw [this, nat_xor_ones n (by omega)]; omega
theorem i64_xor0 (a : Int) (h0 : 0 ≤ a) (h1 : a < 9223372036854775808) : Go.bits .xor .i64 a 0 = a := by
  obtain ⟨n, rfl⟩ := Int.eq_ofNat_of_zero_le h0
  have e1 : n % 2 ^ 64 = n := Nat.mod_eq_of_lt (by omega)
  have f : Go.bits .xor .i64 (n : Int) 0 = IntKind.i64.wrap ((BitVec.ofInt 64 (n : Int) ^^^ BitVec.ofInt 64 0).toNat : Int) := rfl
  rw [f, show BitVec.ofInt 64 0 = 0#64 from rfl, BitVec.xor_zero, BitVec.ofInt_natCast, BitVec.toNat_ofNat, e1, i64w]
  exact wrap64_id (by omega) (by omega)
theorem i64_xorm1 (a : Int) (h0 : 0 ≤ a) (h1 : a < 9223372036854775808) : Go.bits .xor .i64 a (-1) = -1 - a := by
  obtain ⟨n, rfl⟩ := Int.eq_ofNat_of_zero_le h0
  have e1 : n % 2 ^ 64 = n := Nat.mod_eq_of_lt (by omega)
  have f : Go.bits .xor .i64 (n : Int) (-1) = IntKind.i64.wrap ((BitVec.ofInt 64 (n : Int) ^^^ BitVec.ofInt 64 (-1)).toNat : Int) := rfl
  rw [f, show BitVec.ofInt 64 (-1) = BitVec.allOnes 64 from rfl, BitVec.xor_allOnes, BitVec.toNat_not, BitVec.ofInt_natCast, BitVec.toNat_ofNat, e1, i64w]
  unfold wrap64; omega
/-- A number whose low i bits are nought, or one below 2^i: their sum. -/
theorem nat_or_add (a b i : Nat) (ha : a % 2 ^ i = 0) (hb : b < 2 ^ i) : a ||| b = a + b := by
  have hq : a = 2 ^ i * (a / 2 ^ i) := by have := Nat.div_add_mod a (2 ^ i); omega
  rw [hq, ← Nat.two_pow_add_eq_or_of_lt hb (a / 2 ^ i)]
theorem shl_u64 (x n : Nat) (hn : n ≤ 64) : shl .u64 (x : Int) (n : Int) = ((x * 2 ^ n % 18446744073709551616 : Nat) : Int) := by
  unfold shl
  rw [u64w, show ((n : Int)).toNat = n from by omega, show IntKind.u64.bits = 64 from rfl, Nat.min_eq_left hn]
  rw [Int.natCast_emod, Int.natCast_mul, Int.natCast_pow]; rfl
theorem shr_nat (k : IntKind) (x n : Nat) (hn : n ≤ k.bits) : shr k (x : Int) (n : Int) = ((x / 2 ^ n : Nat) : Int) := by
  unfold shr
  rw [show ((n : Int)).toNat = n from by omega, Nat.min_eq_left hn, Int.natCast_ediv, Int.natCast_pow]; rfl

end Go.Proofs.Ytdhdofkpgaibiaa.Base
