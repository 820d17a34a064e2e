/- Proved: for every uint64 u and all ints a and b, WordTurns(u, a, b) returns true: no condition. -/
import Derived.Test.YtcnhcfmmlonjjaaPWordTurnsx1
import Derived.Test.YtcnhcfmmlonjjaaBase
import Derived.Test.YtcnhcfmmlonjjaaRot
namespace Go.Proofs.Ytcnhcfmmlonjjaa.Pure
open Go.RowKit Go.Proofs.Ytcnhcfmmlonjjaa.PWordTurns Go.Proofs.YtcnhcfmmlonjjaaW.PrintWords Go.Proofs.YtcnhcfmmlonjjaaW.PrintLast Go.Proofs.Ytcnhcfmmlonjjaa.Base Go.Proofs.Ytcnhcfmmlonjjaa.Rot
theorem tmod64 (a : Int) : Int.tmod a 64 = if 0 ≤ a then a % 64 else -((-a) % 64) := by
  by_cases h : 0 ≤ a
  · rw [if_pos h, Int.tmod_eq_emod_of_nonneg h]
  · rw [if_neg h, ← Int.tmod_eq_emod_of_nonneg (show 0 ≤ -a by omega), Int.neg_tmod, Int.neg_neg]
theorem rotate_tells (u : Nat) (hu : u < 18446744073709551616) (a : Int) : bits_RotateLeft64.f (u : Int) a = some ((rotl u (a % 64).toNat : Nat) : Int) := by
  have hm : Go.bits .and .u64 (IntKind.u64.wrap a) 63 = a % 64 := by
    have h := Go.bits_mask .u64 64 (by decide) (fun n h0 h1 => u64w_id h0 (by omega)) 6 (by decide) (IntKind.u64.wrap a) (by rw [u64w]; omega) (by rw [u64w]; omega)
    rw [show (2 : Int) ^ 6 - 1 = 63 from rfl] at h
    rw [h, u64w]; omega
  unfold bits_RotateLeft64.f
  rw [hm]
  obtain ⟨s, hs⟩ := Int.eq_ofNat_of_zero_le (show 0 ≤ a % 64 by omega)
  have hs2 : s ≤ 63 := by omega
  rw [hs, if_pos (by omega), u64w_id (by omega) (by omega), if_pos (by omega), show (64 : Int) - (s : Int) = ((64 - s : Nat) : Int) from by omega, shl_u64 u s (by omega), shr_nat _ u (64 - s) (by simp [IntKind.bits])]
  rw [show ((s : Int)).toNat = s from by omega]
  obtain ⟨p1, p2⟩ := rotl_parts u s (by omega) hu
  have hq : u / 2 ^ (64 - s) ≤ u := Nat.div_le_self _ _
  have hl := Nat.mod_lt (u * 2 ^ s) (show 0 < 18446744073709551616 by decide)
  have hz : u * 2 ^ s % 18446744073709551616 % 2 ^ s = 0 := by
    rw [Nat.mod_mod_of_dvd _ (show 2 ^ s ∣ 18446744073709551616 from ⟨2 ^ (64 - s), by rw [← Nat.pow_add, show s + (64 - s) = 64 from by omega]⟩)]
    exact Nat.mul_mod_left u (2 ^ s)
  have hr : rotl u s = u * 2 ^ s % 18446744073709551616 + u / 2 ^ (64 - s) := rfl
  rw [hr]
  generalize u / 2 ^ (64 - s) = y at *
  generalize u * 2 ^ s % 18446744073709551616 = x at *
  rw [n64_or x y hl (by omega), nat_or_add x y s hz p2]
theorem turn_tells (u : Nat) (hu : u < 18446744073709551616) (a : Int) : word_Turn.f (u : Int) a = some ((rotl u (a % 64).toNat : Nat) : Int) := by
  unfold word_Turn.f
  rw [rotate_tells u hu]
  simp only [some_bind]
  congr 4
  rw [tmod64]; split <;> omega
theorem ref_turn_l0 (n : Nat) (hn : n ≤ 64) (u : Nat) (hu : u < 18446744073709551616) (d : Nat) : ∀ (i k : Nat), i + d = n → d < k → organonref01_Turn.l0 k ((rotl u i : Nat) : Int) (n : Int) (i : Int) = some ((rotl u n : Nat) : Int) := by
  induction d with
  | zero =>
    intro i k h hk
    obtain ⟨k, rfl⟩ : ∃ m, k = m + 1 := ⟨k - 1, by omega⟩
    simp only [organonref01_Turn.l0]
    rw [if_neg (by omega), show i = n from by omega]
  | succ d ih =>
    intro i k h hk
    obtain ⟨k, rfl⟩ : ∃ m, k = m + 1 := ⟨k - 1, by omega⟩
    simp only [organonref01_Turn.l0]
    have hl := rotl_lt u i (by omega) hu
    have hs := rotl_succ u i (by omega) hu
    rw [if_pos (by omega), Int.tdiv_eq_ediv_of_nonneg (by omega), wrap64_id (by omega) (by omega), ← ih (i + 1) k (by omega) (by omega), ← hs]
    unfold rot1
    generalize rotl u i = x at *
    congr 1
    rw [u64w, u64w, u64w]; omega
theorem ref_turn_tells (u : Nat) (hu : u < 18446744073709551616) (a : Int) (k : Nat) (hk : 100 ≤ k) : organonref01_Turn.f k (u : Int) a = some ((rotl u (a % 64).toNat : Nat) : Int) := by
  unfold organonref01_Turn.f
  obtain ⟨k, rfl⟩ : ∃ m, k = m + 1 := ⟨k - 1, by omega⟩
  have ht := tmod64 a
  have go : ∀ b : Int, 0 ≤ b → b < 64 → organonref01_Turn.j0 (k + 1) (u : Int) b = some ((rotl u b.toNat : Nat) : Int) := by
    intro b h0 h1
    obtain ⟨n, rfl⟩ := Int.eq_ofNat_of_zero_le h0
    simp only [organonref01_Turn.j0]
    have := ref_turn_l0 n (by omega) u hu n 0 k (by omega) (by omega)
    rw [rotl_zero u hu] at this
    exact this
  by_cases h : Int.tmod a 64 < 0
  · rw [if_pos h, wrap64_id (by split at ht <;> omega) (by split at ht <;> omega), go _ (by split at ht <;> omega) (by omega)]
    congr 4; split at ht <;> omega
  · rw [if_neg h, go _ (by omega) (by split at ht <;> omega)]
    congr 4; split at ht <;> omega

theorem ones_tells (x : Nat) (hx : x < 18446744073709551616) : bits_OnesCount64.f (x : Int) = some ((cnt 64 x : Nat) : Int) := by
  obtain ⟨x1, x2, x3, x4, x5, h1, l1, h2, l2, h3, l3, h4, h5, h6⟩ := ones_par x hx
  have c1 : ((6148914691236517205 : Nat) : Int) = 6148914691236517205 := rfl
  have c2 : ((3689348814741910323 : Nat) : Int) = 3689348814741910323 := rfl
  have c3 : ((1085102592571150095 : Nat) : Int) = 1085102592571150095 := rfl
  have E1 : IntKind.u64.wrap (Go.bits .and .u64 ((x : Int) / 2) 6148914691236517205 + Go.bits .and .u64 (x : Int) 6148914691236517205) = (x1 : Int) := by
    have a1 := n64_and (x / 2) 6148914691236517205 (by omega) (by omega)
    have a2 := n64_and x 6148914691236517205 (by omega) (by omega)
    rw [c1] at a1 a2
    rw [show (x : Int) / 2 = ((x / 2 : Nat) : Int) from by omega, a1, a2, u64w_id (by omega) (by omega)]; omega
  have E2 : IntKind.u64.wrap (Go.bits .and .u64 ((x1 : Int) / 4) 3689348814741910323 + Go.bits .and .u64 (x1 : Int) 3689348814741910323) = (x2 : Int) := by
    have a1 := n64_and (x1 / 4) 3689348814741910323 (by omega) (by omega)
    have a2 := n64_and x1 3689348814741910323 (by omega) (by omega)
    rw [c2] at a1 a2
    rw [show (x1 : Int) / 4 = ((x1 / 4 : Nat) : Int) from by omega, a1, a2, u64w_id (by omega) (by omega)]; omega
  have E3 : Go.bits .and .u64 (IntKind.u64.wrap ((x2 : Int) / 16 + (x2 : Int))) 1085102592571150095 = (x3 : Int) := by
    have a1 := n64_and (x2 / 16 + x2) 1085102592571150095 (by omega) (by omega)
    rw [c3] at a1
    rw [u64w_id (by omega) (by omega), show (x2 : Int) / 16 + (x2 : Int) = ((x2 / 16 + x2 : Nat) : Int) from by omega, a1, h3]
  have E4 : IntKind.u64.wrap ((x3 : Int) + (x3 : Int) / 256) = (x4 : Int) := by
    rw [u64w_id (by omega) (by omega)]; omega
  have E5 : IntKind.u64.wrap ((x4 : Int) + (x4 : Int) / 65536) = (x5 : Int) := by
    rw [u64w_id (by omega) (by omega)]; omega
  have E6 : Go.bits .and .i64 (wrap64 (IntKind.u64.wrap ((x5 : Int) + (x5 : Int) / 4294967296))) 127 = ((cnt 64 x : Nat) : Int) := by
    rw [u64w_id (by omega) (by omega), wrap64_id (by omega) (by omega)]
    have h := Go.bits_mask .i64 63 (by decide) (fun n h0 h1 => by rw [i64w]; exact wrap64_id (by omega) (by omega)) 7 (by decide) ((x5 : Int) + (x5 : Int) / 4294967296) (by omega) (by omega)
    rw [show (2 : Int) ^ 7 - 1 = 127 from rfl] at h
    rw [h]; omega
  clear h1 h2 h3 h4 h5 h6
  unfold bits_OnesCount64.f
  rw [E1, E2, E3, E4, E5, E6]
theorem count_tells (x : Nat) (hx : x < 18446744073709551616) : word_Count.f (x : Int) = some ((cnt 64 x : Nat) : Int) := by
  unfold word_Count.f
  rw [ones_tells x hx]; simp only [some_bind]

theorem rotl_add (u : Nat) (hu : u < 18446744073709551616) (a b : Nat) (h : a + b ≤ 64) : rotl (rotl u a) b = rotl u (a + b) := by
  induction b with
  | zero => rw [rotl_zero _ (rotl_lt u a (by omega) hu)]; rfl
  | succ b ih =>
    rw [← rotl_succ (rotl u a) b (by omega) (rotl_lt u a (by omega) hu), ih (by omega), rotl_succ u (a + b) (by omega) hu]; rfl
theorem rotl_full (u : Nat) (hu : u < 18446744073709551616) : rotl u 64 = u := by
  obtain ⟨h1, h2⟩ := rotl_parts u 64 (by omega) hu
  rw [h1]; simp [Nat.mod_one]
theorem rotl_mod (u : Nat) (hu : u < 18446744073709551616) (a b : Nat) (ha : a < 64) (hb : b < 64) : rotl (rotl u a) b = rotl u ((a + b) % 64) := by
  by_cases h : a + b ≤ 64
  · rw [rotl_add u hu a b h]
    by_cases h2 : a + b = 64
    · rw [h2, rotl_full u hu]; exact (rotl_zero u hu).symm
    · rw [Nat.mod_eq_of_lt (by omega)]
  · have e1 := rotl_add (rotl u a) (rotl_lt u a (by omega) hu) (64 - a) (a + b - 64) (by omega)
    rw [show 64 - a + (a + b - 64) = b from by omega, rotl_add u hu a (64 - a) (by omega), show a + (64 - a) = 64 from by omega, rotl_full u hu] at e1
    rw [← e1, show (a + b) % 64 = a + b - 64 from by omega]
theorem WordTurns : organonlaw01_WordTurns.Pure := by
  intro u a b hu ha hb
  obtain ⟨u0, u1⟩ := wf_u64 hu
  obtain ⟨a0, a1⟩ := wf_i64 ha
  obtain ⟨b0, b1⟩ := wf_i64 hb
  obtain ⟨u, rfl⟩ := Int.eq_ofNat_of_zero_le u0
  have hu : u < 18446744073709551616 := by omega
  refine ⟨200, ?_⟩
  unfold organonlaw01_WordTurns.f
  have la := rotl_lt u (a % 64).toNat (by omega) hu
  rw [turn_tells u hu, ref_turn_tells u hu _ _ (by omega)]
  simp only [some_bind, if_true]
  rw [count_tells _ la, count_tells _ hu, cnt_rotl u hu _ (by omega)]
  simp only [some_bind, bne_self_eq_false]
  simp only [organonlaw01_WordTurns.j0]
  rw [if_neg (by decide)]
  have ta := tmod64 a
  have tb := tmod64 b
  have fa : -63 ≤ Int.tmod a 64 ∧ Int.tmod a 64 ≤ 63 ∧ Int.tmod a 64 % 64 = a % 64 := by split at ta <;> omega
  have fb : -63 ≤ Int.tmod b 64 ∧ Int.tmod b 64 ≤ 63 ∧ Int.tmod b 64 % 64 = b % 64 := by split at tb <;> omega
  clear ta tb
  generalize Int.tmod a 64 = s at *
  generalize Int.tmod b 64 = t at *
  have ls := rotl_lt u (s % 64).toNat (by omega) hu
  rw [turn_tells u hu]
  simp only [some_bind]
  rw [wrap64_id (n := -s) (by omega) (by omega), wrap64_id (by omega) (by omega), turn_tells _ ls]
  simp only [some_bind]
  rw [rotl_mod u hu _ _ (by omega) (by omega), show ((s % 64).toNat + (-s % 64).toNat) % 64 = 0 from by omega, rotl_zero u hu, if_pos rfl, turn_tells _ ls]
  simp only [some_bind]
  rw [turn_tells u hu, rotl_mod u hu _ _ (by omega) (by omega)]
  simp only [some_bind]
  rw [show ((s % 64).toNat + (t % 64).toNat) % 64 = ((s + t) % 64).toNat from by omega]
  simp

end Go.Proofs.Ytcnhcfmmlonjjaa.Pure
