/- Proved: for all ints kind, id and kids, WordHeads(kind, id, kids) returns true: no condition. -/
import Derived.Test.YtcnhcfmmlonjjaaPWordHeadsx1
import Derived.Test.YtcnhcfmmlonjjaaBase
namespace Go.Proofs.Ytcnhcfmmlonjjaa.Pure
open Go.RowKit Go.Proofs.Ytcnhcfmmlonjjaa.PWordHeads Go.Proofs.YtcnhcfmmlonjjaaW.PrintWords Go.Proofs.YtcnhcfmmlonjjaaW.PrintLast Go.Proofs.Ytcnhcfmmlonjjaa.Base
theorem u32_or_add (i : Nat) (x y : Int) (hx0 : 0 ≤ x) (hx : x % 2 ^ i = 0) (hx1 : x < 4294967296) (hy0 : 0 ≤ y) (hy : y < 2 ^ i) (hy1 : y < 4294967296) : Go.bits .or .u32 x y = x + y :=
  Go.bits_join .u32 32 (by decide) (fun n a b => by rw [Go.IntKind.wrap_u32]; omega) i x y hx0 hx hx1 hy0 hy hy1
theorem pack_in (a b c : Int) (a0 : 0 ≤ a) (a1 : a ≤ 255) (b0 : 0 ≤ b) (b1 : b ≤ 65535) (c0 : 0 ≤ c) (c1 : c ≤ 255) : word_Pack.f a b c = some (a * 16777216 + b * 256 + c, 0) := by
  unfold word_Pack.f
  rw [if_pos (by omega), u16w, wrap64_id (by omega) (by omega), if_pos (by omega), if_pos (by omega)]
  rw [show a % 4294967296 * 16777216 % 4294967296 = a * 16777216 from by omega, show b % 4294967296 * 256 % 4294967296 = b * 256 from by omega, show c % 4294967296 = c from by omega]
  rw [u32_or_add 24 (a * 16777216) (b * 256) (by omega) (by simp) (by omega) (by omega) (by simp; omega) (by omega), u32_or_add 8 (a * 16777216 + b * 256) c (by omega) (by simp; omega) (by omega) (by omega) (by simp; omega) (by omega)]
theorem pack_out (a b c : Int) (b2 : -9223372036854775808 ≤ b) (b3 : b < 9223372036854775808) (h : a < 0 ∨ 255 < a ∨ b < 0 ∨ 65535 < b ∨ c < 0 ∨ 255 < c) : word_Pack.f a b c = some (0, 1) := by
  unfold word_Pack.f
  by_cases h1 : a % 256 = a
  · rw [if_pos h1, u16w, wrap64_id (by omega) (by omega)]
    by_cases h2 : b % 65536 = b
    · rw [if_pos h2, if_neg (by omega)]
    · rw [if_neg h2]
  · rw [if_neg h1]
theorem unpack_tells (h : Int) (h0 : 0 ≤ h) (h1 : h < 4294967296) : word_Unpack.f h = some (h / 16777216, h / 256 % 65536, h % 256) := by
  unfold word_Unpack.f
  rw [u16w, wrap64_id (by omega) (by omega), wrap64_id (by omega) (by omega)]

theorem WordHeads : organonlaw01_WordHeads.Pure := by
  intro a b c ha hb hc
  obtain ⟨b2, b3⟩ := wf_i64 hb
  unfold organonlaw01_WordHeads.f
  by_cases h : a < 0 ∨ 255 < a ∨ b < 0 ∨ 65535 < b ∨ c < 0 ∨ 255 < c
  · rw [pack_out a b c b2 b3 h]
    have e : organonref01_Pack.f a b c = some (0, 1) := by
      unfold organonref01_Pack.f
      by_cases g1 : a < 0
      · rw [if_pos g1]
      rw [if_neg g1]
      by_cases g2 : a > 255
      · rw [if_pos g2]
      rw [if_neg g2]
      by_cases g3 : b < 0
      · rw [if_pos g3]
      rw [if_neg g3]
      by_cases g4 : b > 65535
      · rw [if_pos g4]
      rw [if_neg g4]
      by_cases g5 : c < 0
      · rw [if_pos g5]
      rw [if_neg g5, if_pos (by omega)]
    rw [e]
    simp only [some_bind]
    rw [unpack_tells 0 (by omega) (by omega)]
    simp
  · have e : organonref01_Pack.f a b c = some (a * 16777216 + b * 256 + c, 0) := by
      unfold organonref01_Pack.f
      rw [if_neg (by omega), if_neg (by omega), if_neg (by omega), if_neg (by omega), if_neg (by omega), if_neg (by omega)]
      rw [wrap64_id (n := a * 16777216) (by omega) (by omega), wrap64_id (n := b * 256) (by omega) (by omega), wrap64_id (n := a * 16777216 + b * 256) (by omega) (by omega), wrap64_id (by omega) (by omega)]
      congr 2; omega
    rw [pack_in a b c (by omega) (by omega) (by omega) (by omega) (by omega) (by omega), e]
    simp only [some_bind, if_true]
    rw [unpack_tells _ (by omega) (by omega)]
    simp only [some_bind]
    rw [if_pos (by omega), if_pos (by omega)]
    simp; omega

end Go.Proofs.Ytcnhcfmmlonjjaa.Pure
