/- Stamps; a table in memory. -/
import Derived.Test.YtdhdofkpgaibiaaPStampTellsx3
import Derived.Test.YtdhdofkpgaibiaaRot
import Derived.WalkSpells
import Derived.Outline
import Derived.BigQuiet
import Derived.Maps.GroupsBeside
import Derived.Maps.Views
namespace Go.Proofs.Ytdhdofkpgaibiaa.St
open Go.RowKit Go.Proofs.Ytdhdofkpgaibiaa.PStampTells Go.Proofs.YtdhdofkpgaibiaaW.PrintWords Go.Proofs.YtdhdofkpgaibiaaW.PrintLast Go.Proofs.Ytdhdofkpgaibiaa.Base Go.Proofs.Ytdhdofkpgaibiaa.Rot
set_option linter.unusedVariables false
set_option linter.unusedSimpArgs false
theorem rd_nat (xs : List Int) (i : Nat) (h : i < xs.length) : rd xs (i : Int) = xs[i] := by
  unfold rd
  rw [show ((i : Int)).toNat = i from by omega, List.getD_eq_getElem?_getD, List.getElem?_eq_getElem h]; rfl
theorem take_snoc (xs : List Int) (i : Nat) (h : i < xs.length) : xs.take (i + 1) = xs.take i ++ [xs[i]] := by
  rw [List.take_succ_eq_append_getElem h]
theorem tmod64 (a : Int) : Int.tmod a 64 = if 0 ≤ a then a % 64 else -((-a) % 64) := by
  by_cases h : 0 ≤ a
  · rw [if_pos h, Int.tmod_eq_emod_of_nonneg h]
  · rw [if_neg h, ← Int.tmod_eq_emod_of_nonneg (show 0 ≤ -a by omega), Int.neg_tmod, Int.neg_neg]
theorem rotate_tells (u : Nat) (hu : u < 18446744073709551616) (a : Int) : bits_RotateLeft64.f (u : Int) a = some ((rotl u (a % 64).toNat : Nat) : Int) := by
  have hm : Go.bits .and .u64 (IntKind.u64.wrap a) 63 = a % 64 := by
    have h := Go.bits_mask .u64 64 (by decide) (fun n h0 h1 => u64w_id h0 (by omega)) 6 (by decide) (IntKind.u64.wrap a) (by rw [u64w]; omega) (by rw [u64w]; omega)
    rw [show (2 : Int) ^ 6 - 1 = 63 from rfl] at h
    rw [h, u64w]; omega
  unfold bits_RotateLeft64.f
  rw [hm]
  obtain ⟨s, hs⟩ := Int.eq_ofNat_of_zero_le (show 0 ≤ a % 64 by omega)
  have hs2 : s ≤ 63 := by omega
  rw [hs, if_pos (by omega), u64w_id (by omega) (by omega), if_pos (by omega), show (64 : Int) - (s : Int) = ((64 - s : Nat) : Int) from by omega, shl_u64 u s (by omega), shr_nat _ u (64 - s) (by simp [IntKind.bits])]
  rw [show ((s : Int)).toNat = s from by omega]
  obtain ⟨p1, p2⟩ := rotl_parts u s (by omega) hu
  have hq : u / 2 ^ (64 - s) ≤ u := Nat.div_le_self _ _
  have hl := Nat.mod_lt (u * 2 ^ s) (show 0 < 18446744073709551616 by decide)
  have hz : u * 2 ^ s % 18446744073709551616 % 2 ^ s = 0 := by
    rw [Nat.mod_mod_of_dvd _ (show 2 ^ s ∣ 18446744073709551616 from ⟨2 ^ (64 - s), by rw [← Nat.pow_add, show s + (64 - s) = 64 from by omega]⟩)]
    exact Nat.mul_mod_left u (2 ^ s)
  have hr : rotl u s = u * 2 ^ s % 18446744073709551616 + u / 2 ^ (64 - s) := rfl
  rw [hr]
  generalize u / 2 ^ (64 - s) = y at *
  generalize u * 2 ^ s % 18446744073709551616 = x at *
  rw [n64_or x y hl (by omega), nat_or_add x y s hz p2]
theorem turn_tells (u : Nat) (hu : u < 18446744073709551616) (a : Int) : word_Turn.f (u : Int) a = some ((rotl u (a % 64).toNat : Nat) : Int) := by
  unfold word_Turn.f
  rw [rotate_tells u hu]
  simp only [some_bind]
  congr 4
  rw [tmod64]; split <;> omega
/-- What two words mixed are. -/
def mixN (h x : Nat) : Nat :=
  let t := rotl (h ^^^ x) 27 * 11400714819323198485 % 18446744073709551616
  t ^^^ (t / 2147483648)
theorem xor_lt (a b : Nat) (ha : a < 18446744073709551616) (hb : b < 18446744073709551616) : a ^^^ b < 18446744073709551616 := by
  have := Nat.xor_lt_two_pow (n := 64) (by simpa using ha) (by simpa using hb)
  simpa using this
theorem mixN_lt (h x : Nat) : mixN h x < 18446744073709551616 := by
  unfold mixN
  exact xor_lt _ _ (by omega) (by omega)
theorem mix_tells (h x : Nat) (hh : h < 18446744073709551616) (hx : x < 18446744073709551616) : word_Mix.f (h : Int) (x : Int) = some ((mixN h x : Nat) : Int) := by
  unfold word_Mix.f mixN
  rw [n64_xor h x hh hx, turn_tells _ (xor_lt h x hh hx)]
  simp only [some_bind]
  rw [show ((27 : Int) % 64).toNat = 27 from rfl]
  generalize rotl (h ^^^ x) 27 = t
  rw [u64w, show ((t : Int) * 11400714819323198485) % 18446744073709551616 = ((t * 11400714819323198485 % 18446744073709551616 : Nat) : Int) from by omega]
  have : t * 11400714819323198485 % 18446744073709551616 < 18446744073709551616 := Nat.mod_lt _ (by decide)
  generalize t * 11400714819323198485 % 18446744073709551616 = v at *
  rw [show (v : Int) / 2147483648 = ((v / 2147483648 : Nat) : Int) from by omega, n64_xor v _ this (by omega)]
/-- What mixing in some bytes, one by one, makes of a word. -/
def dig (h : Nat) (l : List Int) : Nat := l.foldl (fun h c => mixN h c.toNat) h
theorem dig_snoc (h : Nat) (l : List Int) (c : Int) : dig h (l ++ [c]) = mixN (dig h l) c.toNat := by unfold dig; rw [List.foldl_append, List.foldl_cons, List.foldl_nil]
theorem dig_lt (h : Nat) (hh : h < 18446744073709551616) (l : List Int) : dig h l < 18446744073709551616 := by
  induction l generalizing h with
  | nil => exact hh
  | cons c l ih =>
    have e : dig h (c :: l) = dig (mixN h c.toNat) l := by unfold dig; rw [List.foldl_cons]
    rw [e]
    exact ih _ (mixN_lt _ _)
theorem dig_nil (h : Nat) : dig h [] = h := rfl
def h0 : Nat := 14695981039346656037
theorem h0_lt : h0 < 18446744073709551616 := by unfold h0; omega
theorem h0_cast : (14695981039346656037 : Int) = ((h0 : Nat) : Int) := by unfold h0; omega
theorem digest_l0 (l : List Int) (hl : l.length ≤ 140737488351232) (hb : ∀ x ∈ l, 0 ≤ x ∧ x < 256) (d : Nat) : ∀ (i k : Nat), i + d = l.length → d < k →
    word_Digest.l0 k l ((dig h0 (l.take i) : Nat) : Int) l (l.length : Int) (i : Int) = some ((mixN (dig h0 l) l.length : Nat) : Int) := by
  induction d with
  | zero =>
    intro i k h hk
    obtain ⟨k, rfl⟩ : ∃ m, k = m + 1 := ⟨k - 1, by omega⟩
    simp only [word_Digest.l0]
    rw [if_neg (by omega), show i = l.length from by omega, List.take_length, u64w_id (by omega) (by omega), mix_tells _ _ (dig_lt _ h0_lt l) (by omega)]
    simp only [some_bind]
  | succ d ih =>
    intro i k h hk
    obtain ⟨k, rfl⟩ : ∃ m, k = m + 1 := ⟨k - 1, by omega⟩
    have hi : i < l.length := by omega
    obtain ⟨b0, b1⟩ := hb l[i] (List.getElem_mem hi)
    simp only [word_Digest.l0]
    rw [if_pos (by omega), if_pos (by omega), if_pos (by omega), rd_nat l i hi, u64w_id (by omega) (by omega), wrap64_id (by omega) (by omega), show (i : Int) + 1 = ((i + 1 : Nat) : Int) from by omega]
    have nxt := ih (i + 1) k (by omega) (by omega)
    rw [take_snoc l i hi, dig_snoc] at nxt
    have e : l[i] = ((l[i].toNat : Nat) : Int) := by omega
    rw [e, mix_tells _ _ (dig_lt _ h0_lt _) (by omega)]
    simp only [some_bind]
    exact nxt
theorem digest_tells (l : List Int) (hl : l.length ≤ 140737488351232) (hb : ∀ x ∈ l, 0 ≤ x ∧ x < 256) (k : Nat) (hk : l.length < k) : word_Digest.f k l = some ((mixN (dig h0 l) l.length : Nat) : Int) := by
  unfold word_Digest.f
  have := digest_l0 l hl hb l.length 0 k (by omega) hk
  rw [List.take_zero, dig_nil] at this
  rw [h0_cast]
  exact this

/-- The digest of a row, and its stamp of some bits. -/
def digN (l : List Int) : Nat := mixN (dig h0 l) l.length
def stN (b : Nat) (l : List Int) : Nat := digN l / 2 ^ (64 - b)
theorem digN_lt (l : List Int) : digN l < 18446744073709551616 := mixN_lt _ _
theorem stN_lt (b : Nat) (l : List Int) : stN b l < 18446744073709551616 := Nat.lt_of_le_of_lt (Nat.div_le_self _ _) (digN_lt l)
theorem digest_digN (l : List Int) (hl : l.length ≤ 140737488351232) (hb : ∀ x ∈ l, 0 ≤ x ∧ x < 256) (k : Nat) (hk : l.length < k) : word_Digest.f k l = some ((digN l : Nat) : Int) := digest_tells l hl hb k hk
theorem cut_tells (u b : Nat) (hb : b ≤ 64) : word_Cut.f (u : Int) (b : Int) = some (((u / 2 ^ (64 - b) : Nat) : Int), 0) := by
  unfold word_Cut.f
  rw [if_neg (by omega), if_neg (by omega), wrap64_id (by omega) (by omega), u64w_id (by omega) (by omega), if_pos (by omega), show (64 : Int) - (b : Int) = ((64 - b : Nat) : Int) from by omega, shr_nat _ u (64 - b) (by simp [IntKind.bits])]
end Go.Proofs.Ytdhdofkpgaibiaa.St
namespace Go.Proofs.Ytdhdofkpgaibiaa.St
open Go.RowKit Go.Proofs.YtdhdofkpgaibiaaW.PrintWords Go.Proofs.YtdhdofkpgaibiaaW.PrintLast Go.Proofs.YtdhdofkpgaibiaaW.PrintMore Go.Proofs.Ytdhdofkpgaibiaa.PStampTells
set_option linter.unusedVariables false
set_option linter.unusedSimpArgs false
theorem empty_row {α : Type} (d : Kd α) (W : World) (e : TypeId) : d.R e (W.alloc (.cells #[] e)) W.heap.size (fun _ => True) (.slice (some ⟨W.heap.size, 0, none⟩) 0 0) [] := by
  refine ⟨fun _ _ => trivial, [], ?_, Reps.none _ _⟩
  have h := World.ownsRow_lit (base := W.heap.size) (e := e) (size := d.sz) W #[] 0 (Nat.le_refl _) (by simp [maxLen]) (by simp)
  simpa using h
theorem nil_of_C {α : Type} {d : Kd α} {w : World} {n : Nat} {xs : List α} (h : d.C w none n xs) : n = 0 ∧ xs = [] := by
  obtain ⟨h1, h2⟩ := h
  have : ¬ 0 < n := by
    intro hn
    have h3 := Kd.C_get (d := d) (w := w) (A := none) (n := n) (xs := xs) ⟨h1, h2⟩
    cases xs with
    | nil => simp at h1; omega
    | cons x xs =>
      obtain ⟨ad, c, e, _⟩ := h3 x 0 (Int.le_refl _) (by omega)
      cases e
  refine ⟨by omega, List.eq_nil_of_length_eq_zero (by omega)⟩
set_option maxHeartbeats 4000000 in
set_option maxRecDepth 1000000 in
theorem clone_bytes (A : Option Addr) (c : Nat) (xs : List Int) (w : World) (h : Kd.C (Kd.int .u8) w A xs.length xs) (hl : xs.length ≤ 140737488355328) :
    Calls Try.prog 64 #[.slice A xs.length c] w fun e w' => ∃ v, e = .returned v ∧ Kd.R (Kd.int .u8) 5 w' w.heap.size (fun _ => True) v xs ∧ Below w.heap.size w w' := by
  have HC := Aside0.mk h
  have HL := Aside0.mk hl
  clear h hl
  cases A with
  | none =>
    obtain ⟨h0, rfl⟩ := nil_of_C HC.out
    have heq := fun w => Lib.run_eql_slice_nil (P := Try.prog) w 27 5 none 0 c 0 0 Try.underlying27
    go_enter Try.func64, Try.ntmps64
    go_wp2
    go_ret
    exact ⟨_, rfl, Kd.R_nil _ _ _ _ _, Below.refl _ _⟩
  | some ad =>
    have heq := fun w => Lib.run_eql_slice_nil (P := Try.prog) w 27 5 (some ad) xs.length c 0 0 Try.underlying27
    have HB := Aside0.mk (below_alloc (Below.refl w.heap.size w) (.cells #[] 5))
    have HE := Aside0.mk (empty_row (Kd.int .u8) w 5)
    have HA := Aside0.mk (Kd.C_below HC.out HB.out)
    go_enter Try.func64, Try.ntmps64
    go_wp2_with ((with_reducible refine gate_builtin (b := .append) (xs := #[.tmp 5, .tmp 6]) rfl ?_); at_builtin; refine Kd.R_append_rows (Kd.int .u8) (w0 := w) w.heap.size rfl (.tmp 5) (.tmp 6) 27 5 (.int .u8 0) 1 rfl Try.underlying27 info5 rfl (by decide) (by omega) (.slice (some ⟨w.heap.size, 0, none⟩) 0 0) [] xs _ _ _ (fun _ => True) (fun _ => False) rfl rfl HE.out HA.out ?aM (fun _ h => h.elim) (fun _ _ => trivial) HB.out (by simp) ?aL ?_; (case aM => intro x cs h; exact h); (case aL => have := HL.out; simpa using this); intro v1 w1 ho hb hg hat; have HO := Aside0.mk ho; have HB1 := Aside0.mk hb; clear ho hb hg hat)
    go_ret
    exact ⟨_, rfl, by simpa using HO.out, HB1.out⟩
set_option maxRecDepth 100000 in
theorem run_clip (A : Option Addr) (n c : Nat) (hc : n ≤ c) (W : World) : (Instr.slice 27 (.slice A n c) none (some (.int .i64 (n : Int))) (some (.int .i64 (n : Int)))).run Try.prog W = .ok (.slice A n n) W := by
  obtain ⟨i0, hi, hzz⟩ := Option.map_eq_some_iff.1 info5
  have hel : Try.prog.elem 27 = 5 := by simp [Program.elem, Try.underlying27]
  have hu : Try.prog.underlying 27 = some (.slice (Try.prog.elem 27)) := by rw [hel]; exact Try.underlying27
  rw [run_slice_hm W 27 A n c hu .i64 .i64 n n (by omega) (by omega) (by omega), hel]
  have ha : (A.map fun x => x.add 0) = A := by cases A <;> simp [Addr.add]
  simp [sizeOf, typeInfo, hi, sliced, Result.andThen, ha]
set_option maxHeartbeats 4000000 in
theorem clip_calls (A : Option Addr) (n c : Nat) (hc : n ≤ c) (hn : n ≤ 140737488355328) (w : World) : Calls Try.prog 55 #[.slice A n c] w fun e w' => e = .returned (.slice A n n) ∧ w' = w := by
  have hk := run_clip A n c hc
  go_enter Try.func55, Try.ntmps55
  go_wp2
  go_ret
  exact ⟨rfl, rfl⟩
theorem bytes_at {w w1 : World} {A : Option Addr} {n : Nat} {xs : List Int} (h : Kd.C (Kd.int .u8) w A n xs) (hm : ∀ ad, A = some ad → w1.heap[ad.block]? = w.heap[ad.block]?) : Kd.C (Kd.int .u8) w1 A n xs := by
  refine ⟨h.1, h.2.1, fun hn => ?_⟩
  obtain ⟨ad, e, hc⟩ := h.2.2 hn
  refine ⟨ad, e, fun j p hj => ?_⟩
  obtain ⟨cs, h1, h2, h3⟩ := hc j p hj
  refine ⟨cs, h1, h2, fun i u hu => ?_⟩
  rw [← h3 i u hu]
  have hb : ∀ k, (ad.add k).block = ad.block := fun k => by unfold Addr.add; split <;> rfl
  exact World.cell?_of_block (by rw [hb]; exact hm ad e)
theorem bytes_lt {w : World} {ad : Addr} {n : Nat} {xs : List Int} (h : Kd.C (Kd.int .u8) w (some ad) n xs) (hn : 0 < n) : ad.block < w.heap.size := by
  obtain ⟨ad', e, hc⟩ := Kd.at_int h 0 (Int.le_refl _) (by omega)
  obtain rfl := Option.some.inj e
  have := World.block_lt_of_cell? w _ hc
  have hb : ∀ k, (ad.add k).block = ad.block := fun k => by unfold Addr.add; split <;> rfl
  rwa [hb] at this
set_option maxHeartbeats 8000000 in
set_option maxRecDepth 1000000 in
/-- One piece: a slice of bytes that lies in a box of its own, handed in alone. -/
theorem pieces_one (w0 w : World) (base : Nat) (v : Value) (xs : List Int) (bl : Nat) (A : Option Addr) (c : Nat) (ys : List Int) (k : Nat) (ps : List Int) (HB : Below base w0 w) (hbase : base ≤ w.heap.size) (HO : Kd.R (Kd.int .u8) 5 w base (fun _ => True) v xs) (hbl : w.heap[bl]? = some (.cells #[.slice A ys.length c] 27 (0, 0))) (hC : Kd.C (Kd.int .u8) w A ys.length ys) (hlt : ∀ ad, A = some ad → ad.block < w.heap.size ∧ some ad.block ≠ v.ownBlock) (hput : word_Put.f k ys.length = some ps) (hl : xs.length + ps.length + ys.length ≤ 140737488355328) :
    Calls Try.prog 52 #[v, .slice (some ⟨bl, 0, none⟩) 1 1] w fun e w' => ∃ v', e = .returned v' ∧ Kd.R (Kd.int .u8) 5 w' base (fun _ => True) v' (xs ++ ps ++ ys) ∧ Below base w0 w' ∧ ∀ j, j < w.heap.size → some j ≠ v.ownBlock → w'.heap[j]? = w.heap[j]? := by
  have HL := Aside0.mk hl
  have HO := Aside0.mk HO
  have HB := Aside0.mk HB
  have HBL := Aside0.mk hbl
  have HC := Aside0.mk hC
  have HP := Aside0.mk hput
  have HS := Aside0.mk hbase
  have HT := Aside0.mk hlt
  have c0 : w.cell? ⟨bl, 0, none⟩ = some (.slice A ys.length c) := (blk_cell hbl 0).trans rfl
  have hy : (ys.length : Int) ≤ 140737488355328 := by omega
  obtain ⟨n, hn⟩ : ∃ n, ys.length = n := ⟨_, rfl⟩
  rw [hn] at c0 HC HP hy HL
  have HN := Aside0.mk hn
  clear hl hbl hC hput hbase hlt hn
  go_enter Try.func52, Try.ntmps52
  go_wp2
  refine wp_loop_rounds 2 ?_
  rw [rounds_succ]
  go_wp2_with fail
  refine (word_Put.calls k _ ps _ HP.out).mono ?_
  rintro e w1 ⟨v1, rfl, hr, hb⟩
  have HO1 := Aside0.mk (Kd.R_below HO.out hb)
  have HB1 := Aside0.mk (HB.out.trans (hb.mono HS.out))
  have HS1 := Aside0.mk (Nat.le_trans HS.out hb.size)
  have HPB := Aside0.mk (Kd.R_base hr)
  obtain ⟨A1, c1, hv1⟩ := Kd.R_slice hr
  subst hv1
  have HPR := Aside0.mk (Kd.R_reads' hr)
  have HC1 := Aside0.mk (bytes_at (w1 := w1) HC.out (fun ad e => hb.block _ (HT.out ad e).1))
  have HV := Aside0.mk (Kd.R_lt HO.out)
  have HT1 := Aside0.mk hb.size
  have HM1 := Aside0.mk hb.block
  clear hr hb
  go_wp2_with (first
    | ((with_reducible refine gate_builtin (b := .append) (xs := #[.tmp 13, .tmp 17]) rfl ?_); at_builtin; refine Kd.R_append_rows (Kd.int .u8) (w0 := w0) base rfl (.tmp 13) (.tmp 17) 27 5 (.int .u8 0) 1 rfl Try.underlying27 info5 rfl (by decide) (by decide) v xs ps _ _ _ (fun _ => True) (fun _ => False) rfl rfl HO1.out HPR.out.2.2 ?aM (fun _ h => h.elim) (fun _ _ => trivial) HB1.out HS1.out ?aL ?_; (case aM => intro x cs h; exact h); (case aL => have := HL.out; omega); intro v2 w2 hr hb hg hat; have HO2 := Aside0.mk hr; have HB2 := Aside0.mk hb; have HS2 := Aside0.mk (Nat.le_trans HS1.out hg.size); have HC2 := Aside0.mk (bytes_at (w1 := w2) HC1.out (fun ad e => hg.block _ (Nat.lt_of_lt_of_le (HT.out ad e).1 HT1.out) (HT.out ad e).2)); have HM2 := Aside0.mk hg.block; have HA2 := Aside0.mk hat; have HT2 := Aside0.mk hg.size; clear hr hb hg hat)
    | ((with_reducible refine gate_builtin (b := .append) (xs := #[.tmp 18, .tmp 19]) rfl ?_); at_builtin; refine Kd.R_append_rows (Kd.int .u8) (w0 := w0) base rfl (.tmp 18) (.tmp 19) 27 5 (.int .u8 0) 1 rfl Try.underlying27 info5 rfl (by decide) (by decide) v2 (xs ++ ps) ys _ _ _ (fun _ => True) (fun _ => False) rfl rfl HO2.out HC2.out ?aM (fun _ h => h.elim) (fun _ _ => trivial) HB2.out HS2.out ?aL2 ?_; (case aM => intro x cs h; exact h); (case aL2 => have := HL.out; simp; omega); intro v3 w3 hr hb hg hat; have HO3 := Aside0.mk hr; have HB3 := Aside0.mk hb; have HM3 := Aside0.mk hg.block; clear hr hb hg hat))
  rw [rounds_succ]
  go_wp2
  go_ret
  refine ⟨_, rfl, HO3.out, HB3.out, fun j hj hv => ?_⟩
  have h1 := HT1.out
  have h2 := HT2.out
  rw [HM3.out j (by omega) (fun e => ?_), HM2.out j (by omega) hv, HM1.out j hj]
  rcases HA2.out with ha | ⟨b, hb, hle⟩
  · exact hv (e.trans ha)
  · rw [hb] at e; injection e with e; omega
end Go.Proofs.Ytdhdofkpgaibiaa.St
namespace Go.Proofs.Ytdhdofkpgaibiaa.St
open Go.RowKit Go.Proofs.YtdhdofkpgaibiaaW.PrintWords Go.Proofs.YtdhdofkpgaibiaaW.PrintLast Go.Proofs.YtdhdofkpgaibiaaW.PrintMore Go.Proofs.Ytdhdofkpgaibiaa.PStampTells
set_option linter.unusedVariables false
set_option linter.unusedSimpArgs false
abbrev ptr (g : Nat) : Value := .pointer (some ⟨g, 0, none⟩)
set_option maxHeartbeats 4000000 in
set_option maxRecDepth 1000000 in
theorem stamp_calls (w : World) (pt bits : Nat) (hb : bits ≤ 64) (A : Option Addr) (c : Nat) (b : List Int) (HC : Kd.C (Kd.int .u8) w A b.length b) (hc : b.length ≤ c) (hl : b.length ≤ 140737488351232) (hr : ∀ x ∈ b, 0 ≤ x ∧ x < 256) (hcell : w.cell? ⟨pt, 0, none⟩ = some (.int .i64 bits)) :
    Calls Try.prog 63 #[ptr pt, .slice A b.length c] w fun e w' => e = .returned (.int .u64 (stN bits b)) ∧ Drawn0 w w' := by
  have H1 := Aside0.mk (digest_digN b hl hr (b.length + 1) (by omega))
  have H2 := Aside0.mk (cut_tells (digN b) bits hb)
  have HC' := Aside0.mk HC
  have HCC := Aside0.mk hc
  clear HC hc hl hr hb
  go_enter Try.func63, Try.ntmps63
  go_wp2_with fail
  go_quiet (first
    | (go_at_call 56; exact Calls.quiet_of ((word_Digest.calls _ A c b _ _ (Kd.C_drewN HC'.out _) HCC.out H1.out).mono (fun e w' h => ⟨h.1, h.2.out⟩)))
    | (go_at_call 95; exact Calls.quiet_of ((word_Cut.calls _ _ _ _ _ H2.out).mono (fun e w' h => ⟨h.1, h.2.out⟩))))
  go_wp2
  go_ret
  exact ⟨rfl, ⟨⟨_, rfl⟩⟩⟩
end Go.Proofs.Ytdhdofkpgaibiaa.St
namespace Go.Proofs.Ytdhdofkpgaibiaa.St
open Go.RowKit Go.Proofs.YtdhdofkpgaibiaaW.PrintWords Go.Proofs.YtdhdofkpgaibiaaW.PrintLast Go.Proofs.YtdhdofkpgaibiaaW.PrintMore Go.Proofs.Ytdhdofkpgaibiaa.PStampTells
open Go.Maps Go.WideElems Go.MapKept Go.ChangeMaps Go.ChangeShapes
set_option linter.unusedVariables false
set_option linter.unusedSimpArgs false
/-- A table: its bits, its room, its rows, how often it looked, how often they were the same. -/
structure Tab where
  bits : Nat
  room : Nat
  rows : List (List Int)
  looked : Nat
  same : Nat
/-- The numbers of the rows with a stamp, rising. -/
def idxs (b : Nat) (rows : List (List Int)) (s : Nat) : List Int := ((List.range rows.length).filter (fun i => decide (stN b (rows.getD i []) = s))).map (fun i => ((i : Nat) : Int))
theorem idxs_nil (b s : Nat) : idxs b [] s = [] := rfl
theorem idxs_snoc (b : Nat) (rows : List (List Int)) (r : List Int) (s : Nat) : idxs b (rows ++ [r]) s = idxs b rows s ++ (if stN b r = s then [(rows.length : Int)] else []) := by
  unfold idxs
  rw [List.length_append, List.length_singleton, List.range_succ, List.filter_append, List.map_append]
  refine congr (congrArg _ ?_) ?_
  · refine congrArg _ (List.filter_congr (fun i hi => ?_))
    rw [List.mem_range] at hi
    rw [List.getD_eq_getElem?_getD, List.getD_eq_getElem?_getD, List.getElem?_append_left hi]
  · have e1 : (rows ++ [r]).getD rows.length [] = r := by simp
    by_cases h : stN b r = s
    · rw [if_pos h, List.filter_cons_of_pos (by rw [e1]; exact decide_eq_true h), List.filter_nil, List.map_cons, List.map_nil]
    · rw [if_neg h, List.filter_cons_of_neg (by rw [e1, decide_eq_false h]; exact Bool.false_ne_true), List.filter_nil, List.map_nil]
theorem idxs_mem {b : Nat} {rows : List (List Int)} {s : Nat} {x : Int} (h : x ∈ idxs b rows s) : 0 ≤ x ∧ x < rows.length := by
  unfold idxs at h
  obtain ⟨i, hi, rfl⟩ := List.mem_map.1 h
  have := (List.mem_filter.1 hi).1
  rw [List.mem_range] at this
  omega
theorem idxs_length (b : Nat) (rows : List (List Int)) (s : Nat) : (idxs b rows s).length ≤ rows.length := by
  unfold idxs
  rw [List.length_map]
  have := List.length_filter_le (fun i => decide (stN b (rows.getD i []) = s)) (List.range rows.length)
  rw [List.length_range] at this
  exact this
/-- A list of numbers as an element of the map. -/
def datum (l : List Int) : DataW Unit := if l = [] then .nil else .slice (lits .i64 l) []
theorem lits_inj {q : IntKind} {a b : List Int} (h : lits (H := Unit) q a = lits q b) : a = b := by
  unfold lits at h
  exact (List.map_inj_right (fun x y hxy => by cases hxy; rfl)).1 h
theorem datum_row {w : World} {base : Nat} {v : Value} {zs l : List Int} (ho : w.ownsInts base 3 .i64 v zs) (h : datum l = rowDatum (H := Unit) .i64 v zs) : zs = l := by
  unfold datum at h
  split at h
  · rename_i h0
    rcases ho.datum (H := Unit) with ⟨_, h2⟩ | h2
    · rw [h2, h0]
    · rw [h2] at h; cases h
  · rcases ho.datum (H := Unit) with ⟨h1, h2⟩ | h2
    · rw [h1] at h; cases h
    · rw [h2] at h
      injection h with h3
      exact (lits_inj h3).symm
section
variable {H : Type} {P : Program} {k : TypeId} {w w' : World} {base : Nat} {e : TypeId} {q : IntKind} {b n : Nat} {D : DataW H} {G : Nat → Prop}
theorem ints_move {v : Value} {zs : List Int} (h : w.ownsInts base e q v zs) (hm : ∀ k, v.ownBlock = some k → w'.heap[k]? = w.heap[k]?) : w'.ownsInts base e q v zs := ⟨own_move h.1 hm, h.2⟩
theorem groups_move (h : w.ownsGroups P k base e q b n D) (hb' : w'.heap[b]? = w.heap[b]?) (hs : w.Shuns b (fun k => ¬ G k)) (hm : ∀ k, G k → w'.heap[k]? = w.heap[k]?) : w'.ownsGroups P k base e q b n D := by
  obtain ⟨es, clock, hb, F, hsz, rfl, hbb, hlen, hap⟩ := h
  have mv : ∀ x ∈ es.toList, ∀ k, x.val.ownBlock = some k → w'.heap[k]? = w.heap[k]? := fun x hx k hk => hm k (Classical.not_not.1 (hs es clock hb x hx k hk))
  have hst : ∀ x ∈ es.toList, ∀ z, rowElem (H := H) w base e q x.val = some z → rowElem w' base e q x.val = some z := fun x hx z hz => by
    obtain ⟨zs, ho, rfl⟩ := rowElem_inv hz
    exact rowElem_mk (ints_move ho (mv x hx))
  obtain ⟨F1, hmap, _⟩ := F.stay hst
  refine ⟨es, clock, hb'.trans hb, F1, hsz, by rw [hmap], hbb, fun x hx zs ho => ?_, hap⟩
  obtain ⟨y, hy⟩ := F.reads x hx
  obtain ⟨z, hz, _⟩ := rd_val hy
  obtain ⟨zs0, ho0, _⟩ := rowElem_inv hz
  rw [ho.unique (ints_move ho0 (mv x hx))]
  exact hlen x hx zs0 ho0
theorem shuns_move {No : Nat → Prop} (h : w.Shuns b No) (hb' : w'.heap[b]? = w.heap[b]?) : w'.Shuns b No := fun es clock hb => h es clock (hb'.symm.trans hb)
end
/-- The blocks of a table: the rows' and the groups' lie apart. -/
structure IsT (w : World) (pt : Nat) (T : Tab) (F : Nat → Prop) (bm : Nat) (vr : Value) (FR FG : Nat → Prop) (D : DataW Unit) : Prop where
  blk : w.heap[pt]? = some (.cells #[.int .i64 T.bits, .int .i64 T.room, vr, .map (some bm), .int .i64 T.looked, .int .i64 T.same] 100 (0, 0))
  rows : Kd.R (Kd.slice 5 (Kd.int .u8)) 27 w 0 FR vr T.rows
  grp : w.ownsGroups Try.prog 30 (bm + 1) 3 .i64 bm T.rows.length D
  shun : w.Shuns bm (fun k => ¬ FG k)
  isMap : Maps.IsMap D
  hat : ∀ s : Nat, s < 18446744073709551616 → D.atKey (.int .u64 (s : Int)) .nil = datum (idxs T.bits T.rows s)
  fp : F pt
  fm : F bm
  fr : ∀ k, FR k → F k
  fg : ∀ k, FG k → F k
  lt : ∀ k, F k → k < w.heap.size
  rp : ¬ FR pt
  rm : ¬ FR bm
  gp : ¬ FG pt
  gm : ¬ FG bm
  rg : ∀ k, FR k → ¬ FG k
  pm : pt ≠ bm
  bits : T.bits ≤ 64
  len : T.rows.length ≤ T.room
  room : T.room ≤ 20000
  byt : ∀ r ∈ T.rows, r.length ≤ 140737488351232 ∧ ∀ x ∈ r, 0 ≤ x ∧ x < 256
/-- A world that keeps a table's blocks keeps the table. -/
theorem IsT.move {w w' : World} {pt : Nat} {T : Tab} {F : Nat → Prop} {bm : Nat} {vr : Value} {FR FG : Nat → Prop} {D : DataW Unit} (h : IsT w pt T F bm vr FR FG D) (hm : ∀ k, F k → w'.heap[k]? = w.heap[k]?) (hs : w.heap.size ≤ w'.heap.size) : IsT w' pt T F bm vr FR FG D where
  blk := (hm pt h.fp).trans h.blk
  rows := Kd.R_move h.rows (fun k hk => hm k (h.fr k hk))
  grp := groups_move h.grp (hm bm h.fm) h.shun (fun k hk => hm k (h.fg k hk))
  shun := shuns_move h.shun (hm bm h.fm)
  isMap := h.isMap
  hat := h.hat
  fp := h.fp
  fm := h.fm
  fr := h.fr
  fg := h.fg
  lt := fun k hk => Nat.lt_of_lt_of_le (h.lt k hk) hs
  rp := h.rp
  rm := h.rm
  gp := h.gp
  gm := h.gm
  rg := h.rg
  pm := h.pm
  bits := h.bits
  len := h.len
  room := h.room
  byt := h.byt
/-- A world in which at most the struct's block has been written. -/
theorem IsT.box {w w' : World} {pt : Nat} {T T' : Tab} {F : Nat → Prop} {bm : Nat} {vr : Value} {FR FG : Nat → Prop} {D : DataW Unit} (h : IsT w pt T F bm vr FR FG D) (hm : ∀ k, k ≠ pt → F k → w'.heap[k]? = w.heap[k]?) (hs : w.heap.size ≤ w'.heap.size)
    (hb : w'.heap[pt]? = some (.cells #[.int .i64 T'.bits, .int .i64 T'.room, vr, .map (some bm), .int .i64 T'.looked, .int .i64 T'.same] 100 (0, 0))) (e1 : T'.bits = T.bits) (e2 : T'.room = T.room) (e3 : T'.rows = T.rows) : IsT w' pt T' F bm vr FR FG D where
  blk := hb
  rows := by rw [e3]; exact Kd.R_move h.rows (fun k hk => hm k (fun e => h.rp (e ▸ hk)) (h.fr k hk))
  grp := by rw [e3]; exact groups_move h.grp (hm bm (fun e => h.pm e.symm) h.fm) h.shun (fun k hk => hm k (fun e => h.gp (e ▸ hk)) (h.fg k hk))
  shun := shuns_move h.shun (hm bm (fun e => h.pm e.symm) h.fm)
  isMap := h.isMap
  hat := by rw [e1, e3]; exact h.hat
  fp := h.fp
  fm := h.fm
  fr := h.fr
  fg := h.fg
  lt := fun k hk => Nat.lt_of_lt_of_le (h.lt k hk) hs
  rp := h.rp
  rm := h.rm
  gp := h.gp
  gm := h.gm
  rg := h.rg
  pm := h.pm
  bits := by rw [e1]; exact h.bits
  len := by rw [e2, e3]; exact h.len
  room := by rw [e2]; exact h.room
  byt := by rw [e3]; exact h.byt
end Go.Proofs.Ytdhdofkpgaibiaa.St
namespace Go.Proofs.Ytdhdofkpgaibiaa.St
open Go.RowKit Go.Proofs.YtdhdofkpgaibiaaW.PrintWords Go.Proofs.YtdhdofkpgaibiaaW.PrintLast Go.Proofs.YtdhdofkpgaibiaaW.PrintMore Go.Proofs.Ytdhdofkpgaibiaa.PStampTells
open Go.Maps Go.WideElems Go.MapKept Go.ChangeMaps Go.ChangeShapes
set_option linter.unusedVariables false
set_option linter.unusedSimpArgs false
abbrev tabCells (T : Tab) (vr : Value) (bm : Nat) : Array Value := #[.int .i64 T.bits, .int .i64 T.room, vr, .map (some bm), .int .i64 T.looked, .int .i64 T.same]
/-- A new table. -/
theorem isT_new (w w1 : World) (bits room : Nat) (hb : bits ≤ 64) (hr : room ≤ 20000) (h1 : w1 = w.alloc (.map #[] 0)) :
    IsT (w1.alloc (.cells (tabCells ⟨bits, room, [], 0, 0⟩ (.slice none 0 0) w.heap.size) 100)) (w.heap.size + 1) ⟨bits, room, [], 0, 0⟩ (fun k => k = w.heap.size ∨ k = w.heap.size + 1) w.heap.size (.slice none 0 0) (fun _ => False) (fun _ => False) (.map []) := by
  have hs1 : w1.heap.size = w.heap.size + 1 := by rw [h1, World.size_alloc]
  have hg : w1.ownsGroups (H := Unit) Try.prog 30 (w.heap.size + 1) 3 .i64 w.heap.size 0 (.map []) := by rw [h1]; exact World.ownsGroups_made w Try.prog 30 3 .i64
  have hsh : w1.Shuns w.heap.size (fun k => ¬ False) := by rw [h1]; exact World.Shuns_made w _
  have hold : ∀ (o : Obj) (k : Nat), k < w1.heap.size → (w1.alloc o).heap[k]? = w1.heap[k]? := fun o k hk => (below_alloc (Below.refl _ _) o).block k hk
  refine { blk := ?_, rows := Kd.R_nil _ _ _ _ _, grp := ?_, shun := ?_, isMap := Maps.isMap_empty, hat := ?_, fp := Or.inr rfl, fm := Or.inl rfl, fr := fun _ h => h.elim, fg := fun _ h => h.elim, lt := ?_, rp := id, rm := id, gp := id, gm := id, rg := fun _ h => h.elim, pm := by omega, bits := hb, len := Nat.zero_le _, room := hr, byt := by simp }
  · rw [← hs1]; exact heap_alloc_new _ _
  · exact groups_move (G := fun _ => False) hg (hold _ _ (by omega)) hsh (fun _ h => h.elim)
  · exact shuns_move hsh (hold _ _ (by omega))
  · intro s _
    rw [idxs_nil]
    rfl
  · intro k hk
    rw [World.size_alloc]
    rcases hk with rfl | rfl <;> omega
set_option maxHeartbeats 4000000 in
set_option maxRecDepth 1000000 in
theorem new_calls (w : World) (bits room : Nat) (hb : bits ≤ 64) (h1 : 1 ≤ room) (hr : room ≤ 20000) :
    Calls Try.prog 20 #[.int .i64 bits, .int .i64 room] w fun e w' => e = .returned (.tuple #[ptr (w.heap.size + 1), .int .i64 0]) ∧ IsT w' (w.heap.size + 1) ⟨bits, room, [], 0, 0⟩ (fun k => k = w.heap.size ∨ k = w.heap.size + 1) w.heap.size (.slice none 0 0) (fun _ => False) (fun _ => False) (.map []) ∧ Below w.heap.size w w' ∧ w'.heap.size = w.heap.size + 2 := by
  have k0 : decide ((bits : Int) < 0) = false := decide_eq_false (by omega)
  have k1 : decide (64 < (bits : Int)) = false := decide_eq_false (by omega)
  have k2 : decide ((room : Int) < 1) = false := decide_eq_false (by omega)
  have k3 : decide (20000 < (room : Int)) = false := decide_eq_false (by omega)
  have HB := Aside0.mk hb
  have HR := Aside0.mk hr
  clear hb h1 hr
  have hmm := @run_makeMap Try.prog
  go_enter Try.func20, Try.ntmps20
  go_wp2
  go_ret2
  refine ⟨rfl, isT_new w _ bits room HB.out HR.out rfl, ?_, ?_⟩
  · exact below_alloc (below_alloc (Below.refl _ _) _) _
  · rw [World.size_alloc, World.size_alloc]
set_option maxHeartbeats 4000000 in
set_option maxRecDepth 1000000 in
theorem new_not (w : World) (bits room : Int) (h : bits < 0 ∨ 64 < bits ∨ room < 1 ∨ 20000 < room) :
    Calls Try.prog 20 #[.int .i64 bits, .int .i64 room] w fun e w' => e = .returned (.tuple #[.pointer none, .int .i64 1]) ∧ w' = w := by
  by_cases c0 : bits < 0
  · have k0 : decide (bits < 0) = true := decide_eq_true c0
    clear h c0
    go_enter Try.func20, Try.ntmps20
    go_wp2
    go_ret2
    exact ⟨rfl, rfl⟩
  have k0 : decide (bits < 0) = false := decide_eq_false c0
  by_cases c1 : 64 < bits
  · have k1 : decide (64 < bits) = true := decide_eq_true c1
    clear h c0 c1
    go_enter Try.func20, Try.ntmps20
    go_wp2
    go_ret2
    exact ⟨rfl, rfl⟩
  have k1 : decide (64 < bits) = false := decide_eq_false c1
  by_cases c2 : room < 1
  · have k2 : decide (room < 1) = true := decide_eq_true c2
    clear h c0 c1 c2
    go_enter Try.func20, Try.ntmps20
    go_wp2
    go_ret2
    exact ⟨rfl, rfl⟩
  have k2 : decide (room < 1) = false := decide_eq_false c2
  have k3 : decide (20000 < room) = true := decide_eq_true (by omega)
  clear h c0 c1 c2
  go_enter Try.func20, Try.ntmps20
  go_wp2
  go_ret2
  exact ⟨rfl, rfl⟩
set_option maxHeartbeats 4000000 in
set_option maxRecDepth 1000000 in
theorem len_calls (w : World) {pt : Nat} {T : Tab} {F : Nat → Prop} {bm : Nat} {vr : Value} {FR FG : Nat → Prop} {D : DataW Unit} (h : IsT w pt T F bm vr FR FG D) :
    Calls Try.prog 29 #[ptr pt] w fun e w' => e = .returned (.int .i64 T.rows.length) ∧ w' = w := by
  obtain ⟨A, c, e⟩ := Kd.R_slice h.rows
  have hb := h.blk
  rw [e] at hb
  have c2 : w.cell? ⟨pt, 2, none⟩ = some (.slice A T.rows.length c) := (blk_cell hb 2).trans rfl
  clear hb h e
  go_enter Try.func29, Try.ntmps29
  go_wp2
  go_ret
  exact ⟨rfl, rfl⟩
set_option maxHeartbeats 4000000 in
set_option maxRecDepth 1000000 in
theorem looks_calls (w : World) {pt : Nat} {T : Tab} {F : Nat → Prop} {bm : Nat} {vr : Value} {FR FG : Nat → Prop} {D : DataW Unit} (h : IsT w pt T F bm vr FR FG D) :
    Calls Try.prog 28 #[ptr pt] w fun e w' => e = .returned (.tuple #[.int .i64 T.looked, .int .i64 T.same]) ∧ Drawn0 w w' := by
  have hb := h.blk
  have c4 : w.cell? ⟨pt, 4, none⟩ = some (.int .i64 T.looked) := (blk_cell hb 4).trans rfl
  have c5 : w.cell? ⟨pt, 5, none⟩ = some (.int .i64 T.same) := (blk_cell hb 5).trans rfl
  clear hb h
  go_enter Try.func28, Try.ntmps28
  go_wp2
  go_quiet (fail)
  go_wp2
  go_ret2
  exact ⟨rfl, ⟨⟨_, rfl⟩⟩⟩
end Go.Proofs.Ytdhdofkpgaibiaa.St
namespace Go.Proofs.Ytdhdofkpgaibiaa.St
open Go.RowKit Go.Proofs.YtdhdofkpgaibiaaW.PrintWords Go.Proofs.YtdhdofkpgaibiaaW.PrintLast Go.Proofs.YtdhdofkpgaibiaaW.PrintMore Go.Proofs.Ytdhdofkpgaibiaa.PStampTells
open Go.Maps Go.WideElems Go.MapKept Go.ChangeMaps Go.ChangeShapes
set_option linter.unusedVariables false
set_option linter.unusedSimpArgs false
/-- Which worlds differ from w at most in the blocks of F and in new ones. -/
structure Far (F : Nat → Prop) (w w' : World) : Prop where
  os : w'.os = w.os
  tape : w'.tape = w.tape
  output : w'.output = w.output
  size : w.heap.size ≤ w'.heap.size
  block : ∀ k, k < w.heap.size → ¬ F k → w'.heap[k]? = w.heap[k]?
theorem Far.refl (F : Nat → Prop) (w : World) : Far F w w := ⟨rfl, rfl, rfl, Nat.le_refl _, fun _ _ _ => rfl⟩
theorem Far.mono {F G : Nat → Prop} {w w' : World} (h : Far F w w') (hg : ∀ k, F k → G k ∨ w.heap.size ≤ k) : Far G w w' := ⟨h.os, h.tape, h.output, h.size, fun k hk hn => h.block k hk (fun hf => by rcases hg k hf with h1 | h1; exact hn h1; omega)⟩
theorem Far.trans {F : Nat → Prop} {w w1 w2 : World} (h : Far F w w1) (h' : Far F w1 w2) : Far F w w2 := ⟨h'.os.trans h.os, h'.tape.trans h.tape, h'.output.trans h.output, Nat.le_trans h.size h'.size, fun k hk hn => (h'.block k (Nat.lt_of_lt_of_le hk h.size) hn).trans (h.block k hk hn)⟩
theorem Far.of_below {F : Nat → Prop} {w w' : World} (h : Below w.heap.size w w') : Far F w w' := ⟨h.os, h.tape, h.output, h.size, fun k hk _ => h.block k hk⟩
theorem Far.of_grown {w w' : World} {row : Option Nat} (h : w.grownBy w' row) : Far (fun k => some k = row) w w' := ⟨h.os, h.tape, h.output, h.size, fun k hk hn => h.block k hk hn⟩
theorem Far.drewN {F : Nat → Prop} {w w' : World} (h : Far F w w') (n : Nat) : Far F w (w'.drewN n) := ⟨h.os, h.tape, h.output, h.size, h.block⟩
theorem Far.drew {F : Nat → Prop} {w w' : World} (h : Far F w w') : Far F w w'.drew := ⟨h.os, h.tape, h.output, h.size, h.block⟩
theorem Far.drawn {F : Nat → Prop} {w w1 w2 : World} (h : Far F w w1) (h' : Drawn0 w1 w2) : Far F w w2 := by obtain ⟨n, rfl⟩ := h'.out; exact h.drewN n
theorem Far.below {F : Nat → Prop} {w0 w w' : World} {base : Nat} (h : Far F w w') (hb : Below base w0 w) (hF : ∀ k, F k → base ≤ k) (hs : base ≤ w.heap.size) : Below base w0 w' := hb.trans ⟨h.os, h.tape, h.output, h.size, fun k hk => h.block k (Nat.lt_of_lt_of_le hk hs) (fun hf => by have := hF k hf; omega)⟩
theorem setCell_size (w : World) (a : Addr) (v : Value) : (w.setCell a v).heap.size = w.heap.size := by
  unfold World.setCell
  split <;> simp
theorem Far.set {F : Nat → Prop} {w w' : World} {g j : Nat} (h : Far F w w') (hg : F g) (v : Value) : Far F w (w'.setCell ⟨g, j, none⟩ v) := by
  refine ⟨?_, ?_, ?_, ?_, ?_⟩
  · exact (Below.refl 0 w' |>.setCell (p := ⟨g, j, none⟩) (Nat.zero_le _) v).os.trans h.os
  · exact (Below.refl 0 w' |>.setCell (p := ⟨g, j, none⟩) (Nat.zero_le _) v).tape.trans h.tape
  · exact (Below.refl 0 w' |>.setCell (p := ⟨g, j, none⟩) (Nat.zero_le _) v).output.trans h.output
  · rw [setCell_size]; exact h.size
  · intro k hk hn
    exact (Below.heap_setCell w' ⟨g, j, none⟩ v k (fun e => hn (by rw [e]; exact hg))).trans (h.block k hk hn)
/-- Two rows of bytes are the same just if their texts are. -/
theorem equal_tells (a b : List Int) (ha : ∀ x ∈ a, 0 ≤ x ∧ x < 256) (hb : ∀ x ∈ b, 0 ≤ x ∧ x < 256) : bytes_Equal.f a b = some (decide (a = b)) := by
  unfold bytes_Equal.f
  rw [ByteArray.toList_eq, ByteArray.toList_eq, strOfNums_data, strOfNums_data]
  have inj : ∀ (a b : List Int), (∀ x ∈ a, 0 ≤ x ∧ x < 256) → (∀ x ∈ b, 0 ≤ x ∧ x < 256) → (a.map fun n => UInt8.ofNat n.toNat) = (b.map fun n => UInt8.ofNat n.toNat) → a = b := by
    intro a
    induction a with
    | nil => intro b _ _ h; cases b with
      | nil => rfl
      | cons y b => simp at h
    | cons x a ih => intro b ha hb h; cases b with
      | nil => simp at h
      | cons y b =>
        rw [List.map_cons, List.map_cons] at h
        injection h with h1 h2
        obtain ⟨x0, x1⟩ := ha x List.mem_cons_self
        obtain ⟨y0, y1⟩ := hb y List.mem_cons_self
        have e : (UInt8.ofNat x.toNat).toNat = (UInt8.ofNat y.toNat).toNat := by rw [h1]
        rw [UInt8.toNat_ofNat', UInt8.toNat_ofNat'] at e
        have : x = y := by omega
        rw [this, ih b (fun z hz => ha z (List.mem_cons_of_mem _ hz)) (fun z hz => hb z (List.mem_cons_of_mem _ hz)) h2]
  congr 1
  by_cases h : a = b
  · rw [h]; simp
  · rw [decide_eq_false h]
    exact beq_eq_false_iff_ne.mpr (fun e => h (inj a b ha hb e))
/-- Which of some rows, by their numbers, is b: how many are looked at, and the number. -/
def scan (rows : List (List Int)) (b : List Int) : List Int → Nat × Option Int
  | [] => (0, none)
  | n :: l => if rows.getD n.toNat [] = b then (1, some n) else ((scan rows b l).1 + 1, (scan rows b l).2)
def Tab.grp (T : Tab) (b : List Int) : List Int := idxs T.bits T.rows (stN T.bits b)
def Tab.find (T : Tab) (b : List Int) : Option Int := (scan T.rows b (T.grp b)).2
def Tab.after (T : Tab) (b : List Int) : Tab := { T with looked := T.looked + (scan T.rows b (T.grp b)).1, same := T.same + (if (T.find b).isSome then 1 else 0) }
theorem scan_le (rows : List (List Int)) (b : List Int) (l : List Int) : (scan rows b l).1 ≤ l.length := by
  induction l with
  | nil => exact Nat.le_refl _
  | cons n l ih =>
    unfold scan
    split
    · simp
    · simpa using ih
/-- The number found: a row that is b. -/
theorem scan_some {rows : List (List Int)} {b l : List Int} {n : Int} (h : (scan rows b l).2 = some n) : n ∈ l ∧ rows.getD n.toNat [] = b := by
  induction l with
  | nil => cases h
  | cons m l ih =>
    unfold scan at h
    split at h
    · rename_i hm
      have : m = n := Option.some.inj h
      subst this
      exact ⟨List.mem_cons_self, hm⟩
    · exact ⟨List.mem_cons_of_mem _ (ih h).1, (ih h).2⟩
theorem scan_none {rows : List (List Int)} {b l : List Int} (h : (scan rows b l).2 = none) : ∀ n ∈ l, rows.getD n.toNat [] ≠ b := by
  induction l with
  | nil => simp
  | cons m l ih =>
    unfold scan at h
    split at h
    · cases h
    · rename_i hm
      intro n hn
      rcases List.mem_cons.1 hn with rfl | hn
      · exact hm
      · exact ih h n hn
end Go.Proofs.Ytdhdofkpgaibiaa.St
