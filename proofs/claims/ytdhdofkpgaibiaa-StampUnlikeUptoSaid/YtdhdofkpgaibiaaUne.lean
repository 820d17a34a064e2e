/- The bytes of a unit and of what is told. -/
import Derived.Test.YtdhdofkpgaibiaaPStampTellsx3
import Derived.Test.YtdhdofkpgaibiaaSev
import Derived.Test.YtdhdofkpgaibiaaUnd
import Derived.Test.YtdhdofkpgaibiaaUna
import Derived.Test.YtdhdofkpgaibiaaUnb
namespace Go.Proofs.Ytdhdofkpgaibiaa.Ex
open Go.RowKit Go.Proofs.Ytdhdofkpgaibiaa.PStampTells Go.Proofs.YtdhdofkpgaibiaaW.PrintWords Go.Proofs.YtdhdofkpgaibiaaW.PrintLast Go.Proofs.Ytdhdofkpgaibiaa.Base Go.Proofs.Ytdhdofkpgaibiaa.Sev
theorem u32_or_add (i : Nat) (x y : Int) (hx0 : 0 ≤ x) (hx : x % 2 ^ i = 0) (hx1 : x < 4294967296) (hy0 : 0 ≤ y) (hy : y < 2 ^ i) (hy1 : y < 4294967296) : Go.bits .or .u32 x y = x + y :=
  Go.bits_join .u32 32 (by decide) (fun n a b => by rw [Go.IntKind.wrap_u32]; omega) i x y hx0 hx hx1 hy0 hy hy1
theorem pack_in (a b c : Int) (a0 : 0 ≤ a) (a1 : a ≤ 255) (b0 : 0 ≤ b) (b1 : b ≤ 65535) (c0 : 0 ≤ c) (c1 : c ≤ 255) : word_Pack.f a b c = some (a * 16777216 + b * 256 + c, 0) := by
  unfold word_Pack.f
  rw [if_pos (by omega), u16w, wrap64_id (by omega) (by omega), if_pos (by omega), if_pos (by omega)]
  rw [show a % 4294967296 * 16777216 % 4294967296 = a * 16777216 from by omega, show b % 4294967296 * 256 % 4294967296 = b * 256 from by omega, show c % 4294967296 = c from by omega]
  rw [u32_or_add 24 (a * 16777216) (b * 256) (by omega) (by simp) (by omega) (by omega) (by simp; omega) (by omega), u32_or_add 8 (a * 16777216 + b * 256) c (by omega) (by simp; omega) (by omega) (by omega) (by simp; omega) (by omega)]
theorem or128_facts : ∀ b, b < 256 → b ||| 128 = b % 128 + 128 := by decide +kernel
theorem u8_or128' (b : Nat) (hb : b < 256) : Go.bits .or .u8 (b : Int) 128 = ((b % 128 + 128 : Nat) : Int) := by
  have h := (Go.bits_nat .u8 8 (by decide) (fun n h0 h1 => by rw [Go.IntKind.wrap_u8]; omega) b 128 (by omega) (by decide)).2
  rw [show ((128 : Nat) : Int) = 128 from rfl] at h
  rw [h, or128_facts b hb]
theorem put_l0 (f : Nat) : ∀ (n : Nat) (acc : List Int) (k : Nat), n < 128 ^ (f + 1) → acc.length + f ≤ 20 → f < k → word_Put.l0 k (n : Int) acc = some (acc ++ sev n) := by
  induction f with
  | zero =>
    intro n acc k h ha hk
    obtain ⟨k, rfl⟩ : ∃ m, k = m + 1 := ⟨k - 1, by omega⟩
    have hs : n < 128 := by simpa using h
    simp only [word_Put.l0]
    rw [if_neg (by omega), if_pos (by omega), sev_small hs, show (n : Int) % 256 = (n : Int) from by omega]
  | succ f ih =>
    intro n acc k h ha hk
    obtain ⟨k, rfl⟩ : ∃ m, k = m + 1 := ⟨k - 1, by omega⟩
    simp only [word_Put.l0]
    by_cases hs : n < 128
    · rw [if_neg (by omega), if_pos (by omega), sev_small hs, show (n : Int) % 256 = (n : Int) from by omega]
    · have hl : n / 128 < 128 ^ (f + 1) := by rw [Nat.div_lt_iff_lt_mul (by decide), ← Nat.pow_succ]; exact h
      rw [if_pos (by omega), if_pos (by omega), show (n : Int) % 256 = ((n % 256 : Nat) : Int) from by omega, u8_or128' _ (by omega), show (n : Int) / 128 = ((n / 128 : Nat) : Int) from by omega, ih _ _ k hl (by simp; omega) (by omega), sev_big hs, show n % 256 % 128 = n % 128 from by omega]
      rw [List.append_assoc, List.singleton_append]
theorem put_tells (n : Nat) (h : n < 18446744073709551616) (k : Nat) (hk : 20 ≤ k) : word_Put.f k (n : Int) = some (sev n) := by
  unfold word_Put.f
  exact put_l0 9 n [] k (Nat.lt_of_lt_of_le h (by decide)) (by simp) (by omega)
end Go.Proofs.Ytdhdofkpgaibiaa.Ex
namespace Go.Proofs.Ytdhdofkpgaibiaa.Ex
open Go.RowKit Go.Shelf Go.Proofs.YtdhdofkpgaibiaaW.PrintWords Go.Proofs.YtdhdofkpgaibiaaW.PrintLast Go.Proofs.YtdhdofkpgaibiaaW.PrintMore Go.Proofs.Ytdhdofkpgaibiaa.PStampTells Go.Proofs.Ytdhdofkpgaibiaa.Sev Go.Proofs.Ytdhdofkpgaibiaa.Base
set_option linter.unusedVariables false
set_option linter.unusedSimpArgs false
attribute [local go_sem] Oper.semAt_some
/-- A node's head, as a number; the bytes of an expression. -/
def hdN (e : S84) : Nat := if 0 ≤ e.f0 ∧ e.f0 ≤ 255 ∧ 0 ≤ e.f1 ∧ e.f1 ≤ 65535 ∧ e.f2.length ≤ 255 then (e.f0 * 16777216 + e.f1 * 256 + (e.f2.length : Int)).toNat else 0
def encN (e : S84) : List Int := ((nds 1 e).map (fun p => sev (hdN p.2))).flatten
theorem hdN_lt (e : S84) : hdN e < 4294967296 := by
  unfold hdN
  split <;> omega
theorem pack_any (e : S84) : ∃ r2, word_Pack.f e.f0 e.f1 (e.f2.length : Int) = some ((hdN e : Int), r2) := by
  unfold hdN
  by_cases h : 0 ≤ e.f0 ∧ e.f0 ≤ 255 ∧ 0 ≤ e.f1 ∧ e.f1 ≤ 65535 ∧ e.f2.length ≤ 255
  · rw [if_pos h, pack_in e.f0 e.f1 e.f2.length (by omega) (by omega) (by omega) (by omega) (by omega) (by omega)]
    exact ⟨0, by congr 2; omega⟩
  · rw [if_neg h]
    unfold word_Pack.f
    by_cases h1 : e.f0 % 256 = e.f0
    · rw [if_pos h1]
      by_cases h2 : wrap64 (IntKind.u16.wrap e.f1) = e.f1
      · rw [if_pos h2]
        by_cases h3 : (e.f2.length : Int) % 256 = (e.f2.length : Int)
        · rw [u16w, wrap64_id (by omega) (by omega)] at h2
          omega
        · rw [if_neg h3]; exact ⟨1, rfl⟩
      · rw [if_neg h2]; exact ⟨1, rfl⟩
    · rw [if_neg h1]; exact ⟨1, rfl⟩
theorem R_kept {α : Type} {d : Kd α} {e : Nat} {w w' : World} {base : Nat} {ok : Nat → Prop} {v : Value} {xs : List α} (h : Kd.R d e w base ok v xs) {row : Option Nat} (hg : w.grownBy w' row) (hr : ∀ r, row = some r → ∃ o : Obj, w.heap[r]? = some o ∧ o.isCells = false) : Kd.R d e w' base ok v xs :=
  Kd.R_mono (Kd.R_move (Kd.R_bound h) (fun k hk => by
    obtain ⟨_, _, _, q, _, cells, hc⟩ := hk
    exact (kept_block hc rfl hg hr).trans hc.symm)) (fun k hk => hk.1)
theorem flat_len {α : Type} (f : α → List Int) (l : List α) (h : ∀ x ∈ l, (f x).length ≤ 10) : ((l.map f).flatten).length ≤ 10 * l.length := by
  induction l with
  | nil => simp
  | cons x l ih =>
    have h1 := h x List.mem_cons_self
    have h2 := ih (fun y hy => h y (List.mem_cons_of_mem _ hy))
    rw [List.map_cons, List.flatten_cons, List.length_append, List.length_cons]
    omega
theorem own_obj {q : IntKind} {W : World} {base : Nat} {ok : Nat → Prop} {v : Value} {xs : List Int} (h : Kd.R (Kd.int q) 5 W base ok v xs) {k : Nat} (hk : v.ownBlock = some k) : base ≤ k ∧ ∃ cs, W.heap[k]? = some (.cells cs 5 (0, 0)) := by
  obtain ⟨_, h2, _, t, ht, cs, hc⟩ := (Kd.R_bound h).1 k hk
  have : t = 5 := by
    rcases List.mem_cons.1 ht with h3 | h3
    · exact h3
    · cases h3
  subst this
  exact ⟨h2, cs, hc⟩
theorem keeps_own {q : IntKind} {W W' : World} {base : Nat} {ok : Nat → Prop} {v : Value} {xs : List Int} (h : Kd.R (Kd.int q) 5 W base ok v xs) (hg : W.grownBy W' v.ownBlock) : KeepsOthers W W' :=
  KeepsOthers.of_grownBy hg (fun j o hj ho => by
    obtain ⟨_, cs, hc⟩ := own_obj h hj
    rw [hc] at ho
    obtain rfl := Option.some.inj ho
    rfl)
theorem kpb_own {q : IntKind} {n D : Nat} {W W' : World} {base : Nat} {ok : Nat → Prop} {v : Value} {xs : List Int} (h : Kd.R (Kd.int q) 5 W base ok v xs) (hg : W.grownBy W' v.ownBlock) (hn : n ≤ base) (hW : n ≤ W.heap.size) : Kpb n D W W' := by
  refine ⟨(Below.refl n W).grown hg hW (fun k e => Nat.le_trans hn (own_obj h e).1), fun k _ o ho hx => ?_⟩
  refine (hg.block k (Array.getElem?_eq_some_iff.1 ho).1 (fun e => ?_)).trans ho
  obtain ⟨_, cs, hc⟩ := own_obj h e.symm
  rw [hc] at ho
  obtain rfl := Option.some.inj ho
  obtain ⟨cs', m, e2⟩ := hx
  cases e2
theorem setCell_size (w : World) (a : Addr) (v : Value) : (w.setCell a v).heap.size = w.heap.size := by
  unfold World.setCell
  split <;> simp
def byt {W0 : World} (pre : List (Nd W0)) : List Int := (pre.map (fun y => sev (hdN y.e))).flatten
theorem byt_len {W0 : World} (pre : List (Nd W0)) : (byt pre).length ≤ 10 * pre.length := flat_len _ _ (fun y _ => (sev_len10 _ (by have := hdN_lt y.e; omega)).2)
theorem byt_snoc {W0 : World} (pre : List (Nd W0)) (y : Nd W0) : byt (pre ++ [y]) = byt pre ++ sev (hdN y.e) := by unfold byt; simp
set_option maxRecDepth 1000000 in
set_option maxHeartbeats 8000000 in
theorem encode_in (w : World) (x : Nd w) (hx1 : x.d = 1) (hok : rightN x.e = 0) :
    CallsIn Fence.wide 5 Try.prog 54 #[x.val] w fun e W' => ∃ v, e = .returned (.tuple #[v, .int .i64 0]) ∧ Kd.R (Kd.int .u8) 5 W' w.heap.size (fun _ => True) v (encN x.e) ∧ Below w.heap.size w W' := by
  obtain ⟨L, hp⟩ := pre_ex x
  have hLc := pre_length hp
  have hLs := pre_strip hp
  rw [hx1] at hLs
  have hcn : cnt x.e ≤ 1000 := by
    unfold rightN at hok
    rcases Nat.lt_or_ge 1000 (cnt x.e) with h | h
    · rw [if_pos h] at hok; cases hok
    · exact h
  have hbytL : byt L = encN x.e := by unfold byt encN; rw [← hLs, List.map_map]; rfl
  have HBL := Aside0.mk hbytL
  have hval : x.val = .agg #[.int .i64 x.e.f0, .int .i64 x.e.f1, .slice x.A x.e.f2.length x.c] := rfl
  have hbox : x.box = .cells #[.int .i64 x.e.f0, .int .i64 x.e.f1, .slice x.A x.e.f2.length x.c] 84 := rfl
  have HN := fun w => nodes_in Fence.wide 4 trivial rfl x w
  have hst := fun w3 B hB hb0 => nodes_stops Fence.wide rfl 4 trivial trivial rfl hx1 hp w3 B hB hb0
  have HS : ∀ W1, Below w.heap.size w W1 → Calls Try.prog 50 #[x.val] W1 fun e W' => e = .returned (.int .i64 0) ∧ Below W1.heap.size W1 W' := fun W1 hb => by
    have := right_calls W1 (x.move hb) hx1
    rw [show rightN (x.move hb).e = 0 from hok] at this
    exact this
  rw [hval] at HN HS
  rw [hval]
  obtain ⟨E, hE⟩ : ∃ E, encN x.e = E := ⟨_, rfl⟩
  rw [hE] at HBL ⊢
  clear hE hbytL hLs
  obtain ⟨A, hA⟩ : ∃ A, x.A = A := ⟨_, rfl⟩
  obtain ⟨len, hlen⟩ : ∃ len, x.e.f2.length = len := ⟨_, rfl⟩
  obtain ⟨c, hc⟩ : ∃ c, x.c = c := ⟨_, rfl⟩
  obtain ⟨x0, hx0⟩ : ∃ x0, x.e.f0 = x0 := ⟨_, rfl⟩
  obtain ⟨x1, hx2⟩ : ∃ x1, x.e.f1 = x1 := ⟨_, rfl⟩
  rw [hA, hlen, hc, hx0, hx2] at HN HS
  rw [hA, hlen, hc, hx0, hx2]
  have HST := Aside0.mk hst
  clear hbox hst hval
  refine callsIn_of_wp_marks Try.func54 rfl trivial ?_ rfl
  simp only [Try.ntmps54, List.size_toArray, List.length_cons, List.length_nil, Nat.reduceAdd, Nat.reduceSub, Array.replicate_succ, Array.replicate_zero, List.push_toArray, List.append_toArray, List.nil_append, List.cons_append]
  have hro : Fence.wide.round = none := rfl
  have HB2 := Aside0.mk ((Below.refl w.heap.size w).alloc (Nat.le_refl _) (.cells #[.int .i64 x0, .int .i64 x1, .slice A len c] 84))
  have hE2 : (w.alloc (.cells #[.int .i64 x0, .int .i64 x1, .slice A len c] 84)).heap[w.heap.size]? = some (.cells #[.int .i64 x0, .int .i64 x1, .slice A len c] 84) := World.alloc_heap_new w _
  have hz2 : (w.alloc (.cells #[.int .i64 x0, .int .i64 x1, .slice A len c] 84)).heap.size = w.heap.size + 1 := by simp
  gi_wp2_with fail
  refine ⟨trivial, ?_⟩
  refine (callsIn_wide.2 (HS _ HB2.out)).mono ?_
  rintro e w4 ⟨rfl, hb4⟩
  have hE4 := (hb4.block w.heap.size (by rw [hz2]; omega)).trans hE2
  have HB4 := Aside0.mk (HB2.out.trans (hb4.mono (by rw [hz2]; omega)))
  have hz4 : w.heap.size + 1 ≤ w4.heap.size := by have := hb4.size; rw [hz2] at this; exact this
  clear hE2 hb4 HS
  have hE5 : (w4.alloc (.cells #[.slice none 0 0] 27)).heap[w.heap.size]? = some (.cells #[.int .i64 x0, .int .i64 x1, .slice A len c] 84) := (Below.heap_alloc _ _ _ (by omega)).trans hE4
  have e0 : (w4.alloc (.cells #[.slice none 0 0] 27)).cell? ⟨w.heap.size, 0, none⟩ = some (.int .i64 x0) := (cellAt hE5 0).trans rfl
  have e1 : (w4.alloc (.cells #[.slice none 0 0] 27)).cell? ⟨w.heap.size, 1, none⟩ = some (.int .i64 x1) := (cellAt hE5 1).trans rfl
  have e2 : (w4.alloc (.cells #[.slice none 0 0] 27)).cell? ⟨w.heap.size, 2, none⟩ = some (.slice A len c) := (cellAt hE5 2).trans rfl
  gi_wp2_with (refine ⟨trivial, ?_⟩; gi_at_call 84; refine (HN _).mono ?_; rintro e w' ⟨rfl, rfl⟩)
  obtain ⟨W3, hW3⟩ : ∃ W3, (w4.alloc (.cells #[.slice none 0 0] 27)).alloc x.box = W3 := ⟨_, rfl⟩
  have hs3 : W3.heap.size = w4.heap.size + 2 := by rw [← hW3]; simp
  have hB3 : Below w.heap.size w W3 := by rw [← hW3]; exact HB4.out.trans (((Below.refl _ w4).alloc HB4.out.size _).alloc (by have := HB4.out.size; simp; omega) _)
  have hb3 : W3.heap[w4.heap.size + 1]? = some x.box := by
    rw [← hW3]
    have := World.alloc_heap_new (w4.alloc (.cells #[.slice none 0 0] 27)) x.box
    simpa using this
  have hR3 : W3.heap[w4.heap.size]? = some (.cells #[.slice none 0 0] 27) := by rw [← hW3]; exact (Below.heap_alloc _ _ _ (by simp)).trans (World.alloc_heap_new w4 _)
  first | rw [hW3] | (rw [show x.box = _ from rfl] at hW3; rw [hA, hlen, hc, hx0, hx2] at hW3; rw [hW3])
  have hst := HST.out W3 (w4.heap.size + 1) hb3 hB3
  refine wpIn_rangeFunc_ownH rfl (by decide) (gf := 122) (lb := #[.pointer (some ⟨w4.heap.size + 1, 0, none⟩)]) rfl trivial (enters_of Try.func122 (by kernel_rfl) rfl)
    hst Kpb.trans (kpb_b hB3.size) (Below.refl _ _) (fun _ => rfl)
    (fun pre W => ((∃ v, W.heap[w4.heap.size]? = some (.cells #[v] 27) ∧ Kd.R (Kd.int .u8) 5 W W3.heap.size (fun _ => True) v (byt pre)) ∧ W3.heap.size ≤ W.heap.size) ∧ Below w.heap.size w W)
    (fun _ _ _ => False)
    (OwnFrom.and (fun s A B row hs hg hr => by
      obtain ⟨⟨v, h1, h2⟩, h3⟩ := hs
      exact ⟨⟨v, kept_block h1 rfl hg (fun r e => (hr r e).2), R_kept h2 hg (fun r e => (hr r e).2)⟩, Nat.le_trans h3 hg.size⟩) (ownFrom_below (Nat.le_refl _) hB3.size))
    (fun _ _ _ _ _ hs _ _ => hs)
    ⟨⟨⟨.slice none 0 0, hR3, Kd.R_nil _ _ _ _ _⟩, Nat.le_refl _⟩, hB3⟩
    (fun y a' W => ∃ Bx, W3.heap.size ≤ Bx ∧ W.heap[Bx]? = some y.box ∧ a' = { tmps := #[.agg #[.int .i64 x0, .int .i64 x1, .slice A len c], .pointer (some ⟨w.heap.size, 0, none⟩), .slice none 0 0, .int .i64 0, .int .i64 0, .pointer (some ⟨w4.heap.size, 0, none⟩), undef, .pointer (some ⟨Bx, 0, none⟩), undef, undef, .agg #[.int .i64 x0, .int .i64 x1, .slice A len c], .int .i64 0, .int .i64 0, .bool false, undef, .agg #[.int .i64 x0, .int .i64 x1, .slice A len c], .func (.func 122) #[] #[.pointer (some ⟨w4.heap.size + 1, 0, none⟩)], .int .i64 y.d, y.val, undef, undef, undef, undef, undef, undef, undef, undef, undef, undef, undef, undef, undef, undef, undef, undef, undef], defers := [] })
    (fun y a' => by
      rintro s W W' row ⟨Bx, h1, h2, h3⟩ hg hr
      exact ⟨Bx, h1, kept_block h2 rfl hg (fun r e => (hr r e).2), h3⟩)
    ?assign ?body ?done ?stop
  case assign =>
    rintro l pre y W K ⟨⟨⟨v, h1, h2⟩, h3⟩, hB⟩ hK
    have hK' := hK _ (W.alloc y.box) ((KeepsOthers.alloc _ _).from _) (Kpb.alloc W y.box hB.size) ⟨⟨⟨v, (Below.heap_alloc _ _ _ (Array.getElem?_eq_some_iff.1 h1).1).trans h1, Kd.R_alloc h2 _⟩, by simp; omega⟩, hB.trans ((Below.refl _ W).alloc hB.size _)⟩ ⟨W.heap.size, h3, World.alloc_heap_new W _, rfl⟩
    clear hK
    unfold Nd.encs Nd.val
    unfold Nd.val at hK'
    gi_wp2
    exact hK'
  case body =>
    rintro l pre y a' W hl ⟨r, hr⟩ ⟨⟨⟨v, hv1, hv2⟩, hsz⟩, hB⟩ ⟨Bx, hBx, hbx, rfl⟩ hlt
    have k0 : W.cell? ⟨Bx, 0, none⟩ = some (.int .i64 y.e.f0) := (cellAt hbx 0).trans rfl
    have k1 : W.cell? ⟨Bx, 1, none⟩ = some (.int .i64 y.e.f1) := (cellAt hbx 1).trans rfl
    have k2 : W.cell? ⟨Bx, 2, none⟩ = some (.slice y.A y.e.f2.length y.c) := (cellAt hbx 2).trans rfl
    obtain ⟨r2, hpk⟩ := pack_any y.e
    have HPK := word_Pack.calls y.e.f0 y.e.f1 (y.e.f2.length : Int) _ _ W hpk
    have HH := Aside0.mk (hdN_lt y.e)
    have HLN := Aside0.mk (show (byt pre).length ≤ 10000 from by have := byt_len pre; omega)
    have HSN := Aside0.mk (byt_snoc pre y)
    obtain ⟨q, hq⟩ : ∃ q, hdN y.e = q := ⟨_, rfl⟩
    rw [hq] at HPK HH HSN
    obtain ⟨bs, hbs⟩ : ∃ bs, byt pre = bs := ⟨_, rfl⟩
    rw [hbs] at hv2 HLN HSN
    obtain ⟨bn, hbn⟩ : ∃ bn, byt (pre ++ [y]) = bn := ⟨_, rfl⟩
    rw [hbn] at HSN
    have HBN := Aside0.mk hbn
    clear hq hbs hpk hbn
    have hz : w4.heap.size < W3.heap.size := by omega
    gi_wp2_with fail
    refine ⟨trivial, ?_⟩
    refine (CallsIn.inRound l (callsIn_wide.2 HPK)).mono ?_
    rintro e w6 ⟨rfl, hd⟩
    obtain ⟨nd, rfl⟩ := hd.out
    have hv1' : (W.drewN nd).heap[w4.heap.size]? = some (.cells #[v] 27) := hv1
    have HV2 := Aside0.mk (Kd.R_drewN hv2 nd)
    have HB6 := Aside0.mk (show Below w.heap.size w (W.drewN nd) from ⟨hB.os, hB.tape, hB.output, hB.size, hB.block⟩)
    have HKO := Aside0.mk (show KeepsOthers W (W.drewN nd) from ⟨Nat.le_refl _, fun _ _ h _ => h⟩)
    have HKP := Aside0.mk (show Kpb w.heap.size W3.heap.size W (W.drewN nd) from ⟨⟨rfl, rfl, rfl, Nat.le_refl _, fun _ _ => rfl⟩, fun _ _ _ h _ => h⟩)
    have HZ6 := Aside0.mk (show W3.heap.size ≤ (W.drewN nd).heap.size from hsz)
    clear hv2 hv1 k0 k1 k2 hd HPK
    generalize W.drewN nd = W6 at hv1' HV2 HB6 HKO HKP HZ6 ⊢
    have HPUT := fun W => word_Put.calls 20 (q : Int) (sev q) W (put_tells q (by have := HH.out; omega) 20 (Nat.le_refl _))
    have hqw : IntKind.u64.wrap (q : Int) = (q : Int) := by have := HH.out; rw [IntKind.wrap_u64]; omega
    gi_wp2_with fail
    refine region_in (k := 6) (S := fun w' => w'.heap[w4.heap.size]? = some (.cells #[v] 27)) (ds := [5]) #[false, false, false, false, false, false] (by kernel_rfl) (by intro i o hi; rcases i with _ | _ | _ | _ | _ | _ | i <;> simp at hi <;> first | (subst hi; intro c h; cases h) | skip) (by rintro ⟨a, w, h⟩; exact h) rfl rfl hv1' (fun hHeld => ?_)
    have HV6 := Aside0.mk (Kd.R_drew HV2.out)
    have HB5 := Aside0.mk (show Below w.heap.size w W6.drew from HB6.out.drew)
    have HKO5 := Aside0.mk (HKO.out.trans (KeepsOthers.drew W6))
    have HKP5 := Aside0.mk (show Kpb w.heap.size W3.heap.size W W6.drew from ⟨HKP.out.1.drew, HKP.out.2⟩)
    have HZ5 := Aside0.mk (show W3.heap.size ≤ W6.drew.heap.size from HZ6.out)
    clear HV2 HB6 HKO HKP HZ6
    generalize W6.drew = W5 at HV6 HB5 HKO5 HKP5 HZ5 hHeld ⊢
    refine pure_ (i := 1) (N := (some 31)) (v := ?_) (a' := ?_) #[false, true, false, false, false, false] rfl rfl (by kernel_rfl) (fun _ _ _ h => h) (Or.inl ⟨by rfl, ?_⟩) ?_ ?_
    rotate_left
    · intro w'
      go_simp
      with_reducible rfl
    rotate_left
    · simp only [Act.put, List.setIfInBounds_toArray, List.set_cons_zero, List.set_cons_succ, i64_w, i32_w]
      rfl
    refine pure_ (i := 2) (N := (some 32)) (v := ?_) (a' := ?_) #[false, true, true, false, false, false] rfl rfl (by kernel_rfl) (fun _ _ _ h => h) (Or.inl ⟨by rfl, ?_⟩) ?_ ?_
    rotate_left
    · intro w'
      go_simp
      with_reducible rfl
    rotate_left
    · simp only [Act.put, List.setIfInBounds_toArray, List.set_cons_zero, List.set_cons_succ, i64_w, i32_w]
      rfl
    refine take_ (i := 0) (N := (some 30)) (v := ?_) (a' := ?_) #[true, true, true, false, false, false] rfl rfl (by kernel_rfl) (fun _ _ _ h => h) (Or.inl ⟨by rfl, ?_⟩) hHeld ?_ ?_
    rotate_left
    · rintro w' s0
      have t0 : w'.cell? ⟨w4.heap.size, 0, none⟩ = some v := (cellAt s0 0).trans rfl
      go_simp
      with_reducible rfl
    rotate_left
    · simp only [Act.put, List.setIfInBounds_toArray, List.set_cons_zero, List.set_cons_succ, i64_w, i32_w]
      rfl
    refine one_ (i := 3) (N := (some 33)) #[true, true, true, true, false, false] rfl rfl (by kernel_rfl) (by decide) (fun K hK => ?_)
    refine goes_ Try.func53 (by kernel_rfl) rfl #[.int .u64 (q : Int)] (by rfl) rfl rfl (by simp only [List.map_toArray, List.map_cons, List.map_nil]; rfl) ?_
    refine (HPUT _).mono ?_
    rintro e w7 ⟨v0, rfl, hr0, hb7⟩
    refine ⟨_, rfl, ?_⟩
    obtain ⟨A0, c0, rfl⟩ := Kd.R_slice hr0
    have HPR := Aside0.mk (Kd.R_reads' hr0)
    have HV7 := Aside0.mk (Kd.R_below HV6.out hb7)
    have HB7 := Aside0.mk (HB5.out.trans (hb7.mono HB5.out.size))
    have HKO7 := Aside0.mk (HKO5.out.trans (keeps_below hb7))
    have HKP7 := Aside0.mk (HKP5.out.trans (Kpb.of_below hb7 HB5.out.size))
    have HZ7 := Aside0.mk (Nat.le_trans HZ5.out hb7.size)
    have hb5' := (hb7.block w4.heap.size (by have := HZ5.out; omega)).trans hHeld
    clear hr0 hb7
    refine hK.out _ _ hb5' (fun hHeld => ?_)
    clear hK K
    refine norm_ (a' := ?_) ?_ ?_
    rotate_left
    · show Act.put _ (some 33) _ = _
      simp only [Act.put, List.setIfInBounds_toArray, List.set_cons_zero, List.set_cons_succ, i64_w, i32_w]
      rfl
    refine one_ (i := 4) (N := (some 34)) #[true, true, true, true, true, false] rfl rfl (by kernel_rfl) (by decide) (fun K hK => ?_)
    refine Kd.R_append_rows_step (Kd.int .u8) (Rr := (Kd.int .u8).K w7) (w0 := w7) W3.heap.size (by rfl) (.tmp 30) (.tmp 33) 27 5 (.int .u8 0) 1 rfl Try.underlying27 info5 rfl (by decide) (by decide) v bs (sev q) A0 (sev q).length c0 (fun _ => True) (fun _ => False) rfl rfl HV7.out HPR.out.2.2 ?aM (fun _ h => h.elim) (fun _ _ => trivial) ?aB HZ7.out ?aL ?_
    (case aM => intro x cs h; exact h)
    (case aB => exact Below.refl _ _)
    (case aL => have := HLN.out; have := (sev_len10 q (by have := HH.out; omega)).2; omega)
    intro v8 w8 hr8 hb8 hg8 hat8
    rw [← HSN.out] at hr8
    obtain ⟨A8, c8, rfl⟩ := Kd.R_slice hr8
    have HV8 := Aside0.mk hr8
    have hb58 := (hg8.block w4.heap.size (Array.getElem?_eq_some_iff.1 hHeld).1 (fun e => by have h1 := (own_obj HV7.out e.symm).1; omega)).trans hHeld
    have HKO8 := Aside0.mk (HKO7.out.trans (keeps_own HV7.out hg8))
    have HKP8 := Aside0.mk (HKP7.out.trans (kpb_own HV7.out hg8 (by have := hB3.size; omega) HB7.out.size))
    have HB8 := Aside0.mk (HB7.out.grown hg8 HB7.out.size (fun k e => by have h1 := (own_obj HV7.out e).1; have := hB3.size; omega))
    have HZ8 := Aside0.mk (Nat.le_trans HZ7.out hg8.size)
    clear hr8 hb8 hg8 hat8
    refine hK.out _ _ hb58 (fun hHeld => ?_)
    have r8 : w8.cell? ⟨w4.heap.size, 0, none⟩ = some v := (cellAt hHeld 0).trans rfl
    have f8 : w8.frozen? ⟨w4.heap.size, 0, none⟩ = false := by simp [World.frozen?, hHeld]
    clear hK K
    refine norm_ (a' := ?_) ?_ ?_
    rotate_left
    · show Act.put _ (some 34) _ = _
      simp only [Act.put, List.setIfInBounds_toArray, List.set_cons_zero, List.set_cons_succ, i64_w, i32_w]
      rfl
    refine last_ (i := 5) (N := none) #[true, true, true, true, true, true] rfl rfl (by kernel_rfl) (by decide) (fun K hK => ?_)
    refine skip_ (w1 := ?_) (by rfl) rfl ?_ ?_
    rotate_left
    · go_simp
      rfl
    refine hK.out _ _ ?_
    clear hK K
    refine done_ (by kernel_rfl) ?_
    refine ⟨(HKO8.out.trans (KeepsOthers.setCell _ _ _)).from _, HKP8.out.trans ⟨(Below.refl _ w8).setCell (p := ⟨w4.heap.size, 0, none⟩) (by have := HB4.out.size; omega) _, fun k hk o ho _ => ?_⟩, ⟨⟨_, (blk_set hHeld 0 _).trans rfl, ?_⟩, ?_⟩, HB8.out.setCell (p := ⟨w4.heap.size, 0, none⟩) (by have := HB4.out.size; omega) _⟩
    · exact (Below.heap_setCell w8 ⟨w4.heap.size, 0, none⟩ _ k (by simp; omega)).trans ho
    · rw [HBN.out]
      exact Kd.R_mono (Kd.R_move (Kd.R_bound HV8.out) (fun k hk => Below.heap_setCell w8 ⟨w4.heap.size, 0, none⟩ _ k (by have := hk.2.1; simp; omega))) (fun _ _ => trivial)
    · rw [setCell_size]; exact HZ8.out
  case done =>
    rintro D ys W hD rfl ⟨⟨⟨v, hv1, hv2⟩, hsz⟩, hB⟩ hK
    have r0 : W.cell? ⟨w4.heap.size, 0, none⟩ = some v := (cellAt hv1 0).trans rfl
    rw [HBL.out] at hv2
    gi_wp2
    refine ⟨by simp, .inl ⟨_, _, rfl, run_takeDeferred hK, ?_⟩⟩
    exact ⟨_, results_tmp2 rfl _ _ _, v, rfl, Kd.R_lower (R_kept hv2 (grownBy_putObj' _ D (.deferred none)) (fun r e => by cases e; exact ⟨_, hK, rfl⟩)) hB3.size, hB.trans (belowK_b (w := w) (Nat.le_refl _) W D _ _ (by omega) hK rfl rfl)⟩
  case stop =>
    rintro D c pre W hD hpre h hK
    exact h.elim
theorem encode_calls (w : World) (x : Nd w) (hx1 : x.d = 1) (hok : rightN x.e = 0) : Calls Try.prog 54 #[x.val] w fun e W' => ∃ v, e = .returned (.tuple #[v, .int .i64 0]) ∧ Kd.R (Kd.int .u8) 5 W' w.heap.size (fun _ => True) v (encN x.e) ∧ Below w.heap.size w W' :=
  callsIn_wide.1 (encode_in w x hx1 hok)
end Go.Proofs.Ytdhdofkpgaibiaa.Ex
namespace Go.Proofs.Ytdhdofkpgaibiaa.Ex
open Go.RowKit Go.Proofs.YtdhdofkpgaibiaaW.PrintWords Go.Proofs.YtdhdofkpgaibiaaW.PrintLast Go.Proofs.YtdhdofkpgaibiaaW.PrintMore Go.Proofs.Ytdhdofkpgaibiaa.PStampTells
set_option linter.unusedVariables false
set_option linter.unusedSimpArgs false
/-- expr.Right, by the row of the kids. -/
theorem right_of (w : World) (a b : Int) (A : Option Addr) (c : Nat) (l : List S84) (h : Kd.C k84 w A l.length l) (hc : l.length ≤ c) :
    Calls Try.prog 50 #[.agg #[.int .i64 a, .int .i64 b, .slice A l.length c]] w fun e w' => e = .returned (.int .i64 (rightN ⟨a, b, l⟩)) ∧ Below w.heap.size w w' :=
  right_calls w ⟨1, ⟨a, b, l⟩, A, c, h, hc⟩ rfl
theorem isTerm_of (w : World) (a b : Int) (A : Option Addr) (c : Nat) (l : List S84) (h : Kd.C k84 w A l.length l) (hc : l.length ≤ c) :
    Calls Try.prog 86 #[.agg #[.int .i64 a, .int .i64 b, .slice A l.length c]] w fun e w' => e = .returned (.bool (isT ⟨a, b, l⟩)) ∧ Below w.heap.size w w' :=
  expr_isTerm.calls a b A c l _ w h hc (isTerm_f ⟨a, b, l⟩)
set_option maxHeartbeats 4000000 in
set_option maxRecDepth 1000000 in
theorem isFormula_of (w : World) (a b : Int) (A : Option Addr) (c : Nat) (l : List S84) (h : Kd.C k84 w A l.length l) (hc : l.length ≤ c) :
    Calls Try.prog 51 #[.agg #[.int .i64 a, .int .i64 b, .slice A l.length c]] w fun e w' => e = .returned (.bool (decide (rightN ⟨a, b, l⟩ = 0) && !isT ⟨a, b, l⟩)) ∧ Below w.heap.size w w' := by
  have HC := Aside0.mk h
  have HCC := Aside0.mk hc
  clear h hc
  have hb1 := below_alloc (Below.refl w.heap.size w) (.cells #[.int .i64 a, .int .i64 b, .slice A l.length c] 84)
  have HB1 := Aside0.mk hb1
  have hn1 := heap_alloc_new w (.cells #[.int .i64 a, .int .i64 b, .slice A l.length c] 84)
  obtain ⟨R, hR⟩ : ∃ R, rightN ⟨a, b, l⟩ = R := ⟨_, rfl⟩
  have HR := Aside0.mk hR
  clear hb1 hR
  go_enter Try.func51, Try.ntmps51
  go_wp2_with fail
  refine (right_of _ a b A c l (Kd.C_below HC.out HB1.out) HCC.out).mono ?_
  rintro e w2 ⟨rfl, hb⟩
  have hn2 := (hb.block _ (blk_lt hn1)).trans hn1
  have HB2 := Aside0.mk (HB1.out.trans (hb.mono HB1.out.size))
  rw [HR.out]
  clear hb hn1
  by_cases h0 : R = 0
  · subst h0
    have c0 : w2.cell? ⟨w.heap.size, 0, none⟩ = some (.int .i64 a) := (blk_cell hn2 0).trans rfl
    have c1 : w2.cell? ⟨w.heap.size, 1, none⟩ = some (.int .i64 b) := (blk_cell hn2 1).trans rfl
    have c2 : w2.cell? ⟨w.heap.size, 2, none⟩ = some (.slice A l.length c) := (blk_cell hn2 2).trans rfl
    go_wp2_with fail
    refine (isTerm_of _ a b A c l (Kd.C_below HC.out HB2.out) HCC.out).mono ?_
    rintro e w3 ⟨rfl, hb⟩
    have HB3 := Aside0.mk (HB2.out.trans (hb.mono HB2.out.size))
    go_wp2
    go_ret
    exact ⟨by rw [HR.out]; simp, HB3.out⟩
  · have p0 : (R == 0) = false := beq_eq_false_iff_ne.2 h0
    go_wp2
    go_ret
    exact ⟨by rw [HR.out, decide_eq_false h0]; rfl, HB2.out⟩
/-- One of what is told. -/
def toldE (t : S89) : Int := if t.f1 = false then (if t.f2.f0 ≠ 0 ∨ t.f2.f1 ≠ 0 ∨ t.f2.f2 ≠ [] then 1 else 0) else if rightN t.f2 ≠ 0 then rightN t.f2 else if isT t.f2 then 40 else 0
def toldEs : List S89 → Int
  | [] => 0
  | t :: l => if toldE t ≠ 0 then toldE t else toldEs l
/-- 0: it may be so; else the error. -/
def toldN (l : List S89) : Int := if 64 < l.length then 2 else toldEs l
theorem toldEs_drop (l : List S89) (k : Nat) (hk : k < l.length) : toldEs (l.drop k) = if toldE (rd_T89 l k) ≠ 0 then toldE (rd_T89 l k) else toldEs (l.drop (k + 1)) := by
  rw [List.drop_eq_getElem_cons hk]
  have hr : rd_T89 l k = l[k] := by unfold rd_T89; rw [Int.toNat_natCast, List.getD_eq_getElem?_getD, List.getElem?_eq_getElem hk]; rfl
  rw [hr]
  rfl
set_option maxHeartbeats 8000000 in
set_option maxRecDepth 1000000 in
theorem toldRight_calls (w : World) (A : Option Addr) (c : Nat) (l : List S89) (h : Kd.C k89 w A l.length l) (hc : l.length ≤ c) :
    Calls Try.prog 13 #[.slice A l.length c] w fun e w' => e = .returned (.int .i64 (toldN l)) ∧ Below w.heap.size w w' := by
  have HC := Aside0.mk h
  have HCC := Aside0.mk hc
  clear h hc
  obtain ⟨R, hR⟩ : ∃ R, toldN l = R := ⟨_, rfl⟩
  have HR := Aside0.mk hR
  rw [hR]
  clear hR
  go_enter Try.func13, Try.ntmps13
  by_cases h64 : 64 < l.length
  · have p0 : decide ((64 : Int) < (l.length : Int)) = true := decide_eq_true (by omega)
    obtain rfl : R = 2 := by rw [← HR.out]; unfold toldN; rw [if_pos h64]
    go_wp2
    go_ret
    exact ⟨rfl, Below.refl _ _⟩
  · have p0 : decide ((64 : Int) < (l.length : Int)) = false := decide_eq_false (by omega)
    have HRR := Aside0.mk (show R = toldEs l from by rw [← HR.out]; unfold toldN; rw [if_neg h64])
    go_wp2
    go_loopw [11] (fun i wr => ∃ k : Nat, i = .int .i64 k ∧ k ≤ l.length ∧ R = toldEs (l.drop k) ∧ Below w.heap.size w wr) (fun i _ => l.length - (intOf i).toNat)
    case atStart => exact ⟨0, rfl, Nat.zero_le _, HRR.out, Below.refl _ _⟩
    case round =>
      obtain ⟨k, rfl, hk, hRk, hB⟩ := hrel
      have HRK := Aside0.mk hRk
      have HB := Aside0.mk hB
      clear hRk hB
      by_cases hlt : k < l.length
      · have p1 : decide ((k : Int) < (l.length : Int)) = true := decide_eq_true (by omega)
        have p2 := eq_true (show (k : Int) < (l.length : Int) by omega)
        have hC' := Kd.C_below HC.out HB.out
        obtain ⟨ad, A2, c2, ead, hx0, hx1, hx2, hx3, hx4, hxl, hxC⟩ := at_T89 hC' k (Int.natCast_nonneg k) (by omega)
        subst ead
        rw [Int.toNat_natCast] at hx0 hx1 hx2 hx3 hx4
        have HD := Aside0.mk (toldEs_drop l k hlt)
        obtain ⟨x, hx⟩ : ∃ x, rd_T89 l k = x := ⟨_, rfl⟩
        rw [hx] at hx0 hx1 hx2 hx3 hx4 hxl hxC HD
        have HXL := Aside0.mk hxl
        have HXC := Aside0.mk hxC
        clear hxl hxC hC' hx
        have hn1 := heap_alloc_new wr (.cells #[.string x.f0, .bool x.f1, .int .i64 x.f2.f0, .int .i64 x.f2.f1, .slice A2 x.f2.f2.length c2] 89)
        have HB1 := Aside0.mk (below_alloc (Below.refl wr.heap.size wr) (.cells #[.string x.f0, .bool x.f1, .int .i64 x.f2.f0, .int .i64 x.f2.f1, .slice A2 x.f2.f2.length c2] 89))
        have HBW := Aside0.mk (HB.out.trans (HB1.out.mono HB.out.size))
        cases hf1 : x.f1 with
        | false =>
          rw [hf1] at hx1 hn1 HB1 HBW
          have HT := Aside0.mk (show toldE x = if x.f2.f0 ≠ 0 ∨ x.f2.f1 ≠ 0 ∨ x.f2.f2 ≠ [] then 1 else 0 from by unfold toldE; rw [if_pos hf1])
          by_cases hbad : x.f2.f0 ≠ 0 ∨ x.f2.f1 ≠ 0 ∨ x.f2.f2 ≠ []
          · have hRR : R = 1 := by rw [HRK.out, HD.out, HT.out, if_pos hbad]; rfl
            by_cases h0 : x.f2.f0 = 0
            · have q0 : (x.f2.f0 == 0) = true := beq_iff_eq.2 h0
              have q0' : (x.f2.f0 != 0) = false := by rw [bne, q0]; rfl
              by_cases h1 : x.f2.f1 = 0
              · have q1 : (x.f2.f1 == 0) = true := beq_iff_eq.2 h1
                have q1' : (x.f2.f1 != 0) = false := by rw [bne, q1]; rfl
                have hlen : 0 < x.f2.f2.length := by
                  rcases hbad with h | h | h
                  · exact absurd h0 h
                  · exact absurd h1 h
                  · exact List.length_pos_iff.2 h
                have q2 : decide (0 < x.f2.f2.length) = true := decide_eq_true hlen
                clear h0 h1 hbad
                subst hRR
                go_wp2
                go_ret
                exact ⟨rfl, HBW.out⟩
              · have q1 : (x.f2.f1 == 0) = false := beq_eq_false_iff_ne.2 h1
                have q1' : (x.f2.f1 != 0) = true := by rw [bne, q1]; rfl
                clear h0 h1 hbad
                subst hRR
                go_wp2
                go_ret
                exact ⟨rfl, HBW.out⟩
            · have q0 : (x.f2.f0 == 0) = false := beq_eq_false_iff_ne.2 h0
              have q0' : (x.f2.f0 != 0) = true := by rw [bne, q0]; rfl
              clear h0 hbad
              subst hRR
              go_wp2
              go_ret
              exact ⟨rfl, HBW.out⟩
          · have hRR : R = toldEs (l.drop (k + 1)) := by rw [HRK.out, HD.out, HT.out, if_neg hbad]; rfl
            have h0 : x.f2.f0 = 0 := Classical.not_not.1 (fun h => hbad (Or.inl h))
            have h1 : x.f2.f1 = 0 := Classical.not_not.1 (fun h => hbad (Or.inr (Or.inl h)))
            have h2 : x.f2.f2 = [] := Classical.not_not.1 (fun h => hbad (Or.inr (Or.inr h)))
            have q0 : (x.f2.f0 == 0) = true := beq_iff_eq.2 h0
            have q0' : (x.f2.f0 != 0) = false := by rw [bne, q0]; rfl
            have q1 : (x.f2.f1 == 0) = true := beq_iff_eq.2 h1
            have q1' : (x.f2.f1 != 0) = false := by rw [bne, q1]; rfl
            have q2 : decide (0 < x.f2.f2.length) = false := decide_eq_false (by rw [h2]; simp)
            have hlb : l.length ≤ 64 := by omega
            clear hbad h0 h1 h2
            go_wp2
            go_roundw
            case rel => exact ⟨k + 1, by go_num, by omega, hRR, HBW.out⟩
            case measure => simp [intOf]; omega
        | true =>
          rw [hf1] at hx1 hn1 HB1 HBW
          have HT := Aside0.mk (show toldE x = if rightN x.f2 ≠ 0 then rightN x.f2 else if isT x.f2 then 40 else 0 from by unfold toldE; rw [if_neg (by rw [hf1]; decide)])
          have e4 : (⟨x.f2.f0, x.f2.f1, x.f2.f2⟩ : S84) = x.f2 := eta x.f2
          obtain ⟨rn, hrn⟩ : ∃ rn, rightN x.f2 = rn := ⟨_, rfl⟩
          rw [hrn] at HT
          have HRN := Aside0.mk hrn
          clear hrn
          go_wp2_with fail
          refine (right_of _ x.f2.f0 x.f2.f1 A2 c2 x.f2.f2 (Kd.C_below HXC.out HB1.out) HXL.out).mono ?_
          rintro e w3 ⟨rfl, hb⟩
          rw [e4, HRN.out]
          have HB3 := Aside0.mk (HB1.out.trans (hb.mono HB1.out.size))
          have hn3 := (hb.block _ (blk_lt hn1)).trans hn1
          clear hb hn1 hx0 hx1 hx2 hx3 hx4
          have HBW3 := Aside0.mk (HB.out.trans (HB3.out.mono HB.out.size))
          by_cases hr0 : rn = 0
          · subst hr0
            have d0 : w3.cell? ⟨wr.heap.size, 2, none⟩ = some (.int .i64 x.f2.f0) := (blk_cell hn3 2).trans rfl
            have d1 : w3.cell? ⟨wr.heap.size, 3, none⟩ = some (.int .i64 x.f2.f1) := (blk_cell hn3 3).trans rfl
            have d2 : w3.cell? ⟨wr.heap.size, 4, none⟩ = some (.slice A2 x.f2.f2.length c2) := (blk_cell hn3 4).trans rfl
            go_wp2_with fail
            refine (isFormula_of _ x.f2.f0 x.f2.f1 A2 c2 x.f2.f2 (Kd.C_below HXC.out HB3.out) HXL.out).mono ?_
            rintro e w5 ⟨rfl, hb⟩
            rw [e4, HRN.out]
            have HBW5 := Aside0.mk (HBW3.out.trans (hb.mono HBW3.out.size))
            have hlb : l.length ≤ 64 := by omega
            clear hb d0 d1 d2
            cases hT : isT x.f2 with
            | true =>
              have hRR : R = 40 := by rw [HRK.out, HD.out, HT.out, hT]; rfl
              subst hRR
              go_wp2
              go_ret
              exact ⟨rfl, HBW5.out⟩
            | false =>
              have hRR : R = toldEs (l.drop (k + 1)) := by rw [HRK.out, HD.out, HT.out, hT]; rfl
              go_wp2
              go_roundw
              case rel => exact ⟨k + 1, by go_num, by omega, hRR, HBW5.out⟩
              case measure => simp [intOf]; omega
          · have p3 : (rn == 0) = false := beq_eq_false_iff_ne.2 hr0
            have p4 : (rn != 0) = true := by rw [bne, p3]; rfl
            have hRR : R = rn := by rw [HRK.out, HD.out, HT.out, if_pos hr0, if_pos hr0]
            subst hRR
            go_wp2
            go_ret
            exact ⟨rfl, HBW3.out⟩
      · have p1 : decide ((k : Int) < (l.length : Int)) = false := decide_eq_false (by omega)
        have hRR : R = 0 := by rw [HRK.out, List.drop_eq_nil_of_le (by omega)]; rfl
        subst hRR
        go_wp2
        go_ret
        exact ⟨rfl, HB.out⟩
end Go.Proofs.Ytdhdofkpgaibiaa.Ex
namespace Go.Proofs.Ytdhdofkpgaibiaa.Ex
open Go.RowKit Go.Proofs.YtdhdofkpgaibiaaW.PrintWords Go.Proofs.YtdhdofkpgaibiaaW.PrintLast Go.Proofs.YtdhdofkpgaibiaaW.PrintMore Go.Proofs.Ytdhdofkpgaibiaa.PStampTells Go.Proofs.Ytdhdofkpgaibiaa.Sev Go.Proofs.Ytdhdofkpgaibiaa.Base
set_option linter.unusedVariables false
set_option linter.unusedSimpArgs false
/-- A piece: how many bytes, and they. -/
def pce (b : List Int) : List Int := sev b.length ++ b
def toldB (t : S89) : List Int := pce (bytesOf t.f0) ++ (if t.f1 = false then [0] else [1] ++ pce (encN t.f2))
def bytesN (s : ByteArray) (l : List S89) : List Int := pce (bytesOf s) ++ sev l.length ++ (l.map toldB).flatten
theorem encN_len (e : S84) (h : rightN e = 0) : (encN e).length ≤ 10000 := by
  have hc : cnt e ≤ 1000 := by
    unfold rightN at h
    rcases Nat.lt_or_ge 1000 (cnt e) with h1 | h1
    · rw [if_pos h1] at h; cases h
    · exact h1
  have := flat_len (fun p : Int × S84 => sev (hdN p.2)) (nds 1 e) (fun p _ => (sev_len10 _ (by have := hdN_lt p.2; omega)).2)
  rw [nds_length] at this
  unfold encN
  omega
theorem pce_len (b : List Int) (h : b.length ≤ 1048576) : (pce b).length ≤ b.length + 10 := by
  unfold pce
  rw [List.length_append]
  have := (sev_len10 b.length (by omega)).2
  omega
theorem told_right {l : List S89} (h : toldN l = 0) : l.length ≤ 64 ∧ ∀ t ∈ l, toldE t = 0 := by
  unfold toldN at h
  rcases Nat.lt_or_ge 64 l.length with h1 | h1
  · rw [if_pos h1] at h; cases h
  · rw [if_neg (by omega)] at h
    refine ⟨h1, ?_⟩
    clear h1
    induction l with
    | nil => intro t ht; cases ht
    | cons x l ih =>
      unfold toldEs at h
      by_cases hx : toldE x = 0
      · rw [if_neg (by simpa using hx)] at h
        intro t ht
        rcases List.mem_cons.1 ht with rfl | ht
        · exact hx
        · exact ih h t ht
      · rw [if_pos hx] at h; exact absurd h hx
theorem toldE_right {t : S89} (h : toldE t = 0) (h1 : t.f1 = true) : rightN t.f2 = 0 := by
  unfold toldE at h
  rw [if_neg (by rw [h1]; decide)] at h
  by_cases hr : rightN t.f2 = 0
  · exact hr
  · rw [if_pos hr] at h; exact h
theorem toldB_len (t : S89) (h : toldE t = 0) (hs : t.f0.size ≤ 1048576) : (toldB t).length ≤ 1100000 := by
  unfold toldB
  have h1 := pce_len (bytesOf t.f0) (by rw [bytesOf_length]; exact hs)
  rw [bytesOf_length] at h1
  rw [List.length_append]
  split
  · simp; omega
  · rename_i hf
    have hr := toldE_right h (by simpa using hf)
    have h2 := encN_len t.f2 hr
    have h3 := pce_len (encN t.f2) (by omega)
    simp; omega
theorem tolds_len (l : List S89) (h : ∀ t ∈ l, toldE t = 0) (hs : ∀ t ∈ l, t.f0.size ≤ 1048576) : ((l.map toldB).flatten).length ≤ 1100000 * l.length := by
  induction l with
  | nil => simp
  | cons x l ih =>
    have h1 := toldB_len x (h x List.mem_cons_self) (hs x List.mem_cons_self)
    have h2 := ih (fun t ht => h t (List.mem_cons_of_mem _ ht)) (fun t ht => hs t (List.mem_cons_of_mem _ ht))
    rw [List.map_cons, List.flatten_cons, List.length_append, List.length_cons]
    omega
theorem take_snoc (l : List S89) (k : Nat) (hk : k < l.length) : ((l.take (k + 1)).map toldB).flatten = ((l.take k).map toldB).flatten ++ toldB (rd_T89 l k) := by
  have hr : rd_T89 l k = l[k] := by unfold rd_T89; rw [Int.toNat_natCast, List.getD_eq_getElem?_getD, List.getElem?_eq_getElem hk]; rfl
  rw [hr, List.take_succ_eq_append_getElem hk, List.map_append, List.flatten_append]
  simp
end Go.Proofs.Ytdhdofkpgaibiaa.Ex
namespace Go.Proofs.Ytdhdofkpgaibiaa.Ex
open Go.RowKit Go.Proofs.YtdhdofkpgaibiaaW.PrintWords Go.Proofs.YtdhdofkpgaibiaaW.PrintLast Go.Proofs.YtdhdofkpgaibiaaW.PrintMore Go.Proofs.Ytdhdofkpgaibiaa.PStampTells Go.Proofs.Ytdhdofkpgaibiaa.Sev Go.Proofs.Ytdhdofkpgaibiaa.Base Go.Proofs.Ytdhdofkpgaibiaa.St
set_option linter.unusedVariables false
set_option linter.unusedSimpArgs false
theorem own_ad {α : Type} {d : Kd α} {e : Nat} {w : World} {base : Nat} {ok : Nat → Prop} {ad : Addr} {n c : Nat} {xs : List α} (h : d.R e w base ok (.slice (some ad) n c) xs) : ok ad.block := by
  obtain ⟨h0, inner, ho, hr⟩ := h
  rcases ho.2 with ⟨e, _⟩ | ⟨g, cap, cur, e, _⟩
  · cases e
  · simp only [Value.slice.injEq, Option.some.injEq] at e
    obtain ⟨rfl, _, _⟩ := e
    exact h0 g rfl
set_option maxHeartbeats 8000000 in
set_option maxRecDepth 1000000 in
theorem bytes_calls (w : World) (s : ByteArray) (A : Option Addr) (c : Nat) (l : List S89) (hC : Kd.C k89 w A l.length l) (hc : l.length ≤ c) (hs : s.size ≤ 20000) (hn : toldN l = 0) (hsz : ∀ t ∈ l, t.f0.size ≤ 1048576) :
    Calls Try.prog 14 #[.string s, .slice A l.length c] w fun e w' => ∃ A c, e = .returned (.tuple #[.slice A (bytesN s l).length (bytesN s l).length, .int .i64 0]) ∧ Kd.R (Kd.int .u8) 5 w' w.heap.size (fun _ => True) (.slice A (bytesN s l).length c) (bytesN s l) ∧ Below w.heap.size w w' := by
  obtain ⟨h64, hall⟩ := told_right hn
  have HC := Aside0.mk hC
  have HCC := Aside0.mk hc
  have HN := Aside0.mk hn
  have HALL := Aside0.mk hall
  have HSZ := Aside0.mk hsz
  have H64 := Aside0.mk h64
  have HTL := Aside0.mk (tolds_len l hall hsz)
  have HS := Aside0.mk hs
  have kb := fun W => print_bytes (P := Try.prog) 9 27 5 Try.underlying9 Try.underlying27 Try.underlying5 s W
  have q0 : decide (20000 < (s.size : Int)) = false := decide_eq_false (by omega)
  have q1 := eq_false (show ¬ 20000 < (s.size : Int) by omega)
  have hlw : IntKind.u64.wrap (l.length : Int) = (l.length : Int) := by rw [IntKind.wrap_u64]; omega
  have HP := Aside0.mk (put_tells s.size (by omega) 20 (Nat.le_refl _))
  have HPL := Aside0.mk (sev_len10 s.size (by omega)).2
  have HP2 := Aside0.mk (put_tells l.length (by omega) 20 (Nat.le_refl _))
  have HPL2 := Aside0.mk (sev_len10 l.length (by omega)).2
  have HE := Aside0.mk (show bytesN s l = sev s.size ++ bytesOf s ++ sev l.length ++ (l.map toldB).flatten from by unfold bytesN pce; rw [bytesOf_length])
  obtain ⟨E, hE⟩ : ∃ E, bytesN s l = E := ⟨_, rfl⟩
  rw [hE] at HE ⊢
  clear hC hc hn hall hsz h64 hs hE
  go_enter Try.func14, Try.ntmps14
  go_wp2_with fail
  refine (toldRight_calls w A c l HC.out HCC.out).mono ?_
  rintro e w1 ⟨rfl, hb⟩
  rw [HN.out]
  have HB0 := Aside0.mk hb
  clear hb
  go_wp2_with fail
  refine (piece_str w w1 w.heap.size (.slice none 0 0) [] s 20 (sev s.size) HB0.out HB0.out.size (Kd.R_nil _ _ _ _ _) HP.out (by have := HPL.out; have := HS.out; simp; omega)).mono ?_
  rintro e w2 ⟨v2, rfl, hr, hb, -⟩
  rw [List.nil_append] at hr
  have HO := Aside0.mk hr
  have HB := Aside0.mk hb
  clear hr hb kb q0 q1 HB0
  go_wp2_with fail
  refine (word_Put.calls 20 (l.length : Int) (sev l.length) _ HP2.out).mono ?_
  rintro e w3 ⟨v3, rfl, hr, hb⟩
  obtain ⟨A3, c3, hv3⟩ := Kd.R_slice hr
  subst hv3
  have HPR := Aside0.mk (Kd.R_reads' hr)
  have HO1 := Aside0.mk (Kd.R_below HO.out hb)
  have HB1 := Aside0.mk (HB.out.trans (hb.mono HB.out.size))
  have HS1 := Aside0.mk (Nat.le_trans HB.out.size hb.size)
  clear hr hb HO HB
  go_wp2_with ((with_reducible refine gate_builtin (b := .append) (xs := #[.tmp 24, .tmp 28]) rfl ?_); at_builtin; refine Kd.R_append_rows (Kd.int .u8) (w0 := w) w.heap.size rfl (.tmp 24) (.tmp 28) 27 5 (.int .u8 0) 1 rfl Try.underlying27 info5 rfl (by decide) (by decide) v2 (sev s.size ++ bytesOf s) (sev l.length) _ _ _ (fun _ => True) (fun _ => False) rfl rfl HO1.out HPR.out.2.2 ?aM (fun _ h => h.elim) (fun _ _ => trivial) HB1.out HS1.out ?aL ?_; (case aM => intro x cs h; exact h); (case aL => have := HPL.out; have := HPL2.out; have := HS.out; have := bytesOf_length s; simp; omega); intro v4 w4 hr hb hg hat; obtain ⟨L, hL⟩ : ∃ L, sev s.size ++ bytesOf s ++ sev l.length = L := ⟨_, rfl⟩; rw [hL] at hr; have HLL := Aside0.mk hL; clear hL; have HO2 := Aside0.mk hr; have HB2 := Aside0.mk hb; clear hr hb hg hat)
  have HLN := Aside0.mk (show L.length ≤ 20021 by rw [← HLL.out]; have := HPL.out; have := HPL2.out; have := HS.out; have := bytesOf_length s; simp; omega)
  have HE2 := Aside0.mk (show E = L ++ (l.map toldB).flatten from by rw [HE.out, HLL.out])
  clear HO1 HB1 HS1 HPR
  go_loopw [7, 32] (fun v i wr => ∃ k : Nat, i = .int .i64 k ∧ k ≤ l.length ∧ Kd.R (Kd.int .u8) 5 wr w.heap.size (fun _ => True) v (L ++ ((l.take k).map toldB).flatten) ∧ Below w.heap.size w wr) (fun _ i _ => l.length - (intOf i).toNat)
  case atStart => exact ⟨0, rfl, Nat.zero_le _, by simpa using HO2.out, HB2.out⟩
  case round =>
    obtain ⟨k, rfl, hk, hR, hB⟩ := hrel
    have HR := Aside0.mk hR
    have HB := Aside0.mk hB
    clear hR hB
    have h64 := H64.out
    by_cases hlt : k < l.length
    · have p1 : decide ((k : Int) < (l.length : Int)) = true := decide_eq_true (by omega)
      have p2 := eq_true (show (k : Int) < (l.length : Int) by omega)
      obtain ⟨ad, A2, c2, ead, hx0, hx1, hx2, hx3, hx4, hxl, hxC⟩ := at_T89 HC.out k (Int.natCast_nonneg k) (by omega)
      subst ead
      rw [Int.toNat_natCast] at hx0 hx1 hx2 hx3 hx4
      replace hx0 := cell_old hx0 HB.out
      replace hx1 := cell_old hx1 HB.out
      replace hx2 := cell_old hx2 HB.out
      replace hx3 := cell_old hx3 HB.out
      replace hx4 := cell_old hx4 HB.out
      have HD := Aside0.mk (take_snoc l k hlt)
      have hmem : rd_T89 l k ∈ l := by unfold rd_T89; rw [Int.toNat_natCast, List.getD_eq_getElem?_getD, List.getElem?_eq_getElem hlt]; exact List.getElem_mem _
      have HX0 := Aside0.mk (HALL.out _ hmem)
      have HXS := Aside0.mk (HSZ.out _ hmem)
      have HTK := Aside0.mk (show ((l.take k).map toldB).flatten.length ≤ 1100000 * 64 from Nat.le_trans (tolds_len (l.take k) (fun t ht => HALL.out t (List.mem_of_mem_take ht)) (fun t ht => HSZ.out t (List.mem_of_mem_take ht))) (by rw [List.length_take]; omega))
      obtain ⟨T0, hT0⟩ : ∃ T0, ((l.take k).map toldB).flatten = T0 := ⟨_, rfl⟩
      rw [hT0] at HR HD HTK
      obtain ⟨x, hx⟩ : ∃ x, rd_T89 l k = x := ⟨_, rfl⟩
      rw [hx] at hx0 hx1 hx2 hx3 hx4 hxl hxC HD HX0 HXS
      have HXL := Aside0.mk hxl
      have HXC := Aside0.mk hxC
      clear hxl hxC hx hmem hT0
      obtain ⟨nm, hnm⟩ : ∃ nm, x.f0 = nm := ⟨_, rfl⟩
      obtain ⟨b1, hb1⟩ : ∃ b1, x.f1 = b1 := ⟨_, rfl⟩
      rw [hnm] at hx0 HXS
      rw [hb1] at hx1
      have HB1' := Aside0.mk hb1
      have HTB := Aside0.mk (show toldB x = sev nm.size ++ bytesOf nm ++ (if b1 = false then [0] else [1] ++ pce (encN x.f2)) from by unfold toldB; rw [hnm, hb1]; unfold pce; rw [bytesOf_length])
      have HPN := Aside0.mk (put_tells nm.size (by have := HXS.out; omega) 20 (Nat.le_refl _))
      have HPNL := Aside0.mk (sev_len10 nm.size (by have := HXS.out; omega)).2
      have kb := fun W => print_bytes (P := Try.prog) 9 27 5 Try.underlying9 Try.underlying27 Try.underlying5 nm W
      clear hnm hb1
      have hpc := piece_str w (wr.alloc (.cells #[.string nm, .bool b1, .int .i64 x.f2.f0, .int .i64 x.f2.f1, .slice A2 x.f2.f2.length c2] 89)) w.heap.size u7 (L ++ T0) nm 20 (sev nm.size) (below_alloc HB.out _) (by have := HB.out.size; simp; omega) (Kd.R_alloc HR.out _) HPN.out (by have := HPNL.out; have := HXS.out; have := HLN.out; have := HTK.out; simp; omega)
      rw [World.size_alloc] at hpc
      have hn9 := heap_alloc_new wr (.cells #[.string nm, .bool b1, .int .i64 x.f2.f0, .int .i64 x.f2.f1, .slice A2 x.f2.f2.length c2] 89)
      have HRL := Aside0.mk (Kd.R_lt HR.out)
      clear HR
      go_wp2_with fail
      refine hpc.mono ?_
      rintro e w6 ⟨v6, rfl, hr, hb, hkp⟩
      have be := (hkp wr.heap.size (by simp) (fun e => by have := HRL.out _ e.symm; omega)).trans hn9
      have d1 : w6.cell? ⟨wr.heap.size, 1, none⟩ = some (.bool b1) := (blk_cell be 1).trans rfl
      have d2 : w6.cell? ⟨wr.heap.size, 2, none⟩ = some (.int .i64 x.f2.f0) := (blk_cell be 2).trans rfl
      have d3 : w6.cell? ⟨wr.heap.size, 3, none⟩ = some (.int .i64 x.f2.f1) := (blk_cell be 3).trans rfl
      have d4 : w6.cell? ⟨wr.heap.size, 4, none⟩ = some (.slice A2 x.f2.f2.length c2) := (blk_cell be 4).trans rfl
      obtain ⟨M, hM⟩ : ∃ M, L ++ T0 ++ sev nm.size ++ bytesOf nm = M := ⟨_, rfl⟩
      rw [hM] at hr
      have HM := Aside0.mk hM
      have HLM := Aside0.mk (show M.length ≤ 1100000 * 64 + 2000000 from by rw [← hM]; have := HPNL.out; have := HXS.out; have := HLN.out; have := HTK.out; have := bytesOf_length nm; simp; omega)
      have HO3 := Aside0.mk hr
      have HB3 := Aside0.mk hb
      clear hr hb hkp hn9 be hpc kb hx0 hx1 hx2 hx3 hx4 hM
      cases b1 with
      | false =>
        clear d2 d3 d4
        have HNX := Aside0.mk (show L ++ ((l.take (k + 1)).map toldB).flatten = M ++ [0] from by rw [HD.out, HTB.out, ← HM.out]; simp)
        go_wp2_with ((with_reducible refine gate_builtin (b := .append) (xs := #[.tmp 45, .tmp 46]) rfl ?_); at_builtin; refine Kd.R_append (Kd.int .u8) (w0 := w) w.heap.size rfl (.tmp 45) (.tmp 46) 27 5 (.int .u8 0) 1 rfl Try.underlying27 info5 rfl (by decide) (by decide) v6 M 0 [.int .u8 0] (fun _ => True) (fun _ => False) rfl rfl ?aP (fun _ hk => hk.elim) (fun _ _ => trivial) HO3.out HB3.out ?aS ?aL ?_; (case aP => exact rfl); (case aS => exact HB3.out.size); (case aL => have := HLM.out; omega); intro v7 w7 hr hb hg hat; rw [← HNX.out] at hr; have HO4 := Aside0.mk hr; have HB4 := Aside0.mk hb; clear hr hb hg hat)
        go_roundw
        case rel => exact ⟨k + 1, by go_num, by omega, HO4.out, HB4.out⟩
        case measure => simp [intOf]; omega
      | true =>
        have hr0 := toldE_right HX0.out HB1'.out
        have HEN := Aside0.mk (encN_len x.f2 hr0)
        have HNX := Aside0.mk (show L ++ ((l.take (k + 1)).map toldB).flatten = M ++ [1] ++ sev (encN x.f2).length ++ encN x.f2 from by rw [HD.out, HTB.out, ← HM.out]; unfold pce; simp)
        have hEC : Calls Try.prog 54 #[.agg #[.int .i64 x.f2.f0, .int .i64 x.f2.f1, .slice A2 x.f2.f2.length c2]] w6 fun e W' => ∃ v, e = .returned (.tuple #[v, .int .i64 0]) ∧ Kd.R (Kd.int .u8) 5 W' w6.heap.size (fun _ => True) v (encN x.f2) ∧ Below w6.heap.size w6 W' :=
          encode_calls w6 ⟨1, x.f2, A2, c2, Kd.C_below HXC.out HB3.out, HXL.out⟩ rfl hr0
        obtain ⟨en, hen⟩ : ∃ en, encN x.f2 = en := ⟨_, rfl⟩
        rw [hen] at hEC HEN HNX
        have HPE := Aside0.mk (put_tells en.length (by have := HEN.out; omega) 20 (Nat.le_refl _))
        have HPEL := Aside0.mk (sev_len10 en.length (by have := HEN.out; omega)).2
        clear hen hr0
        go_wp2_with fail
        refine hEC.mono ?_
        rintro e w7 ⟨v7, rfl, hr, hb⟩
        obtain ⟨A7, c7, hv7⟩ := Kd.R_slice hr
        subst hv7
        have HR7 := Aside0.mk hr
        have HB7 := Aside0.mk hb
        have HO7 := Aside0.mk (Kd.R_below HO3.out hb)
        have HOL := Aside0.mk (Kd.R_lt HO3.out)
        have HBW7 := Aside0.mk (HB3.out.trans (hb.mono HB3.out.size))
        clear hr hb hEC d1 d2 d3 d4
        go_wp2_with ((with_reducible refine gate_builtin (b := .append) (xs := #[.tmp 54, .tmp 55]) rfl ?_); at_builtin; refine Kd.R_append (Kd.int .u8) (w0 := w) w.heap.size rfl (.tmp 54) (.tmp 55) 27 5 (.int .u8 0) 1 rfl Try.underlying27 info5 rfl (by decide) (by decide) v6 M 1 [.int .u8 1] (fun _ => True) (fun _ => False) rfl rfl ?aP (fun _ hk => hk.elim) (fun _ _ => trivial) HO7.out HBW7.out ?aS ?aL ?_; (case aP => exact rfl); (case aS => exact HBW7.out.size); (case aL => have := HLM.out; omega); intro v8 w8 hr hb hg hat; have HO8 := Aside0.mk hr; have HB8 := Aside0.mk hb; have HG8 := Aside0.mk hg; have HA8 := Aside0.mk hat; clear hr hb hg hat)
        have hA8 : Kd.R (Kd.int .u8) 5 w8 w6.heap.size (fun k => w6.heap.size ≤ k ∧ k < w7.heap.size) (.slice A7 en.length c7) en := Kd.R_mono (Kd.R_move (Kd.R_bound HR7.out) (fun k hk => HG8.out.block k hk.2.2.1 (fun e => by have := HOL.out k e.symm; have := hk.2.1; omega))) (fun k hk => ⟨hk.2.1, hk.2.2.1⟩)
        have hpo := pieces_one w (w8.alloc (.cells #[.slice A7 en.length c7] 27)) w.heap.size v8 (M ++ [1]) w8.heap.size A7 c7 en 20 (sev en.length) (below_alloc HB8.out _) (by have := HB8.out.size; simp; omega) (Kd.R_alloc HO8.out _) (heap_alloc_new w8 _) (Kd.C_alloc (Kd.R_reads' hA8).2.2 _) (fun ad e => by
          subst e
          obtain ⟨h1, h2⟩ := own_ad hA8
          have h3 := HG8.out.size
          refine ⟨by simp; omega, fun e => ?_⟩
          rcases HA8.out with h4 | ⟨b, h4, h5⟩
          · rw [h4] at e
            have := HOL.out _ e.symm
            omega
          · rw [h4] at e
            have := Option.some.inj e
            omega) HPE.out (by have := HLM.out; have := HPEL.out; have := HEN.out; simp; omega)
        refine hpo.mono ?_
        rintro e w9 ⟨v9, rfl, hr, hb, -⟩
        rw [← HNX.out] at hr
        have HO9 := Aside0.mk hr
        have HB9 := Aside0.mk hb
        clear hr hb hpo hA8
        go_wp2
        go_roundw
        case rel => exact ⟨k + 1, by go_num, by omega, HO9.out, HB9.out⟩
        case measure => simp [intOf]; omega
    · have p1 : decide ((k : Int) < (l.length : Int)) = false := decide_eq_false (by omega)
      obtain rfl : k = l.length := by omega
      rw [List.take_length, ← HE2.out] at HR
      obtain ⟨A7, c7, hv7⟩ := Kd.R_slice HR.out
      subst hv7
      have HEL := Aside0.mk (show E.length ≤ 1100000 * 64 + 30000 from by rw [HE2.out, List.length_append]; have := HLN.out; have := HTL.out; omega)
      go_wp2_with fail
      refine (clip_calls A7 E.length c7 (Kd.R_reads' HR.out).2.1 ?hn _).mono ?_
      case hn => have := HEL.out; omega
      rintro e w8 ⟨rfl, rfl⟩
      go_wp2
      go_ret2
      exact ⟨A7, c7, rfl, HR.out, HB.out⟩
end Go.Proofs.Ytdhdofkpgaibiaa.Ex
namespace Go.Proofs.Ytdhdofkpgaibiaa.Ex
open Go.RowKit Go.Proofs.YtdhdofkpgaibiaaW.PrintWords Go.Proofs.YtdhdofkpgaibiaaW.PrintLast Go.Proofs.YtdhdofkpgaibiaaW.PrintMore Go.Proofs.Ytdhdofkpgaibiaa.PStampTells Go.Proofs.Ytdhdofkpgaibiaa.Sev Go.Proofs.Ytdhdofkpgaibiaa.Base Go.Proofs.Ytdhdofkpgaibiaa.St
set_option linter.unusedVariables false
set_option linter.unusedSimpArgs false
/-- 0: there are bytes; else the error. -/
def errN (s : ByteArray) (l : List S89) : Int := if 20000 < s.size then 2 else toldN l
set_option maxHeartbeats 8000000 in
set_option maxRecDepth 1000000 in
theorem bytes_err (w : World) (s : ByteArray) (A : Option Addr) (c : Nat) (l : List S89) (hC : Kd.C k89 w A l.length l) (hc : l.length ≤ c) (he : errN s l ≠ 0) :
    Calls Try.prog 14 #[.string s, .slice A l.length c] w fun e w' => e = .returned (.tuple #[.slice none 0 0, .int .i64 (errN s l)]) ∧ Below w.heap.size w w' := by
  have HC := Aside0.mk hC
  have HCC := Aside0.mk hc
  obtain ⟨R, hR⟩ : ∃ R, errN s l = R := ⟨_, rfl⟩
  have HR := Aside0.mk hR
  rw [hR] at he ⊢
  clear hC hc hR
  go_enter Try.func14, Try.ntmps14
  by_cases hs : 20000 < s.size
  · have q0 : decide (20000 < (s.size : Int)) = true := decide_eq_true (by omega)
    have q1 := eq_true (show (20000 : Int) < (s.size : Int) by omega)
    obtain rfl : R = 2 := by rw [← HR.out]; unfold errN; rw [if_pos hs]
    go_wp2
    go_ret2
    exact ⟨rfl, Below.refl _ _⟩
  · have q0 : decide (20000 < (s.size : Int)) = false := decide_eq_false (by omega)
    have q1 := eq_false (show ¬ (20000 : Int) < (s.size : Int) by omega)
    have HR2 := Aside0.mk (show toldN l = R from by rw [← HR.out]; unfold errN; rw [if_neg hs])
    have p0 : (R == 0) = false := beq_eq_false_iff_ne.2 he
    have p1 : (R != 0) = true := by rw [bne, p0]; rfl
    go_wp2_with fail
    refine (toldRight_calls w A c l HC.out HCC.out).mono ?_
    rintro e w1 ⟨rfl, hb⟩
    rw [HR2.out]
    have HB0 := Aside0.mk hb
    go_wp2
    go_ret2
    exact ⟨rfl, HB0.out⟩
theorem bytesOf_range (s : ByteArray) : ∀ x ∈ bytesOf s, 0 ≤ x ∧ x < 256 := by
  intro x hx
  unfold bytesOf at hx
  obtain ⟨b, _, rfl⟩ := List.mem_map.1 hx
  have := b.toNat_lt
  omega
theorem pce_range (b : List Int) (hb : ∀ x ∈ b, 0 ≤ x ∧ x < 256) (hl : b.length ≤ 140737488355328) : ∀ x ∈ pce b, 0 ≤ x ∧ x < 256 := by
  intro x hx
  unfold pce at hx
  rcases List.mem_append.1 hx with h | h
  · exact sev_bytes10 _ (by omega) x h
  · exact hb x h
theorem encN_range (e : S84) : ∀ x ∈ encN e, 0 ≤ x ∧ x < 256 := by
  intro x hx
  unfold encN at hx
  obtain ⟨l, hl, hx⟩ := List.mem_flatten.1 hx
  obtain ⟨p, _, rfl⟩ := List.mem_map.1 hl
  exact sev_bytes10 _ (by have := hdN_lt p.2; omega) x hx
theorem toldB_range (t : S89) (h : toldE t = 0) (hs : t.f0.size ≤ 1048576) : ∀ x ∈ toldB t, 0 ≤ x ∧ x < 256 := by
  intro x hx
  unfold toldB at hx
  rcases List.mem_append.1 hx with h1 | h1
  · exact pce_range _ (bytesOf_range _) (by rw [bytesOf_length]; omega) x h1
  · split at h1
    · rw [List.mem_singleton] at h1; omega
    · rename_i hf
      rcases List.mem_append.1 h1 with h2 | h2
      · rw [List.mem_singleton] at h2; omega
      · exact pce_range _ (encN_range _) (by have := encN_len t.f2 (toldE_right h (by simpa using hf)); omega) x h2
theorem bytesN_range (s : ByteArray) (l : List S89) (hs : s.size ≤ 20000) (hn : toldN l = 0) (hsz : ∀ t ∈ l, t.f0.size ≤ 1048576) : ∀ x ∈ bytesN s l, 0 ≤ x ∧ x < 256 := by
  intro x hx
  obtain ⟨h64, hall⟩ := told_right hn
  unfold bytesN at hx
  rcases List.mem_append.1 hx with h1 | h1
  · rcases List.mem_append.1 h1 with h2 | h2
    · exact pce_range _ (bytesOf_range _) (by rw [bytesOf_length]; omega) x h2
    · exact sev_bytes10 _ (by omega) x h2
  · obtain ⟨b, hb, hx⟩ := List.mem_flatten.1 h1
    obtain ⟨t, ht, rfl⟩ := List.mem_map.1 hb
    exact toldB_range t (hall t ht) (hsz t ht) x hx
theorem bytesN_len (s : ByteArray) (l : List S89) (hs : s.size ≤ 20000) (hn : toldN l = 0) (hsz : ∀ t ∈ l, t.f0.size ≤ 1048576) : (bytesN s l).length ≤ 100000000 := by
  obtain ⟨h64, hall⟩ := told_right hn
  have h1 := tolds_len l hall hsz
  have h2 := pce_len (bytesOf s) (by rw [bytesOf_length]; omega)
  rw [bytesOf_length] at h2
  have h3 := (sev_len10 l.length (by omega)).2
  unfold bytesN
  rw [List.length_append, List.length_append]
  omega
theorem errN_ok {s : ByteArray} {l : List S89} (he : errN s l = 0) : s.size ≤ 20000 ∧ toldN l = 0 := by
  unfold errN at he
  rcases Nat.lt_or_ge 20000 s.size with h | h
  · rw [if_pos h] at he; cases he
  · rw [if_neg (by omega)] at he; exact ⟨h, he⟩
set_option maxHeartbeats 8000000 in
set_option maxRecDepth 1000000 in
theorem local_calls (w : World) (s : ByteArray) (A : Option Addr) (c : Nat) (l : List S89) (hC : Kd.C k89 w A l.length l) (hc : l.length ≤ c) (he : errN s l = 0) (hsz : ∀ t ∈ l, t.f0.size ≤ 1048576) :
    Calls Try.prog 15 #[.string s, .slice A l.length c] w fun e w' => e = .returned (.tuple #[.int .u64 (digN (bytesN s l)), .int .i64 0]) ∧ Below w.heap.size w w' := by
  obtain ⟨hs, hn⟩ := errN_ok he
  have hbc := bytes_calls w s A c l hC hc hs hn hsz
  have hrg := bytesN_range s l hs hn hsz
  have hln := bytesN_len s l hs hn hsz
  obtain ⟨E, hE⟩ : ∃ E, bytesN s l = E := ⟨_, rfl⟩
  rw [hE] at hbc hrg hln ⊢
  have HD := Aside0.mk (digest_digN E (by omega) hrg (E.length + 1) (by omega))
  clear hC hc he hsz hs hn hrg hln hE
  go_enter Try.func15, Try.ntmps15
  go_wp2_with fail
  refine hbc.mono ?_
  rintro e w1 ⟨A1, c1, rfl, hr, hb⟩
  have HB := Aside0.mk hb
  have HR := Aside0.mk (Kd.R_reads' hr).2.2
  clear hr hb hbc
  go_wp2_with fail
  refine (word_Digest.calls _ A1 E.length E _ w1 HR.out (Nat.le_refl _) HD.out).mono ?_
  rintro e w2 ⟨rfl, hd⟩
  have HB2 := Aside0.mk (HB.out.trans (hd.below.mono HB.out.size))
  go_wp2
  go_ret2
  exact ⟨rfl, HB2.out⟩
set_option maxHeartbeats 8000000 in
set_option maxRecDepth 1000000 in
theorem local_err (w : World) (s : ByteArray) (A : Option Addr) (c : Nat) (l : List S89) (hC : Kd.C k89 w A l.length l) (hc : l.length ≤ c) (he : errN s l ≠ 0) :
    Calls Try.prog 15 #[.string s, .slice A l.length c] w fun e w' => e = .returned (.tuple #[.int .u64 0, .int .i64 (errN s l)]) ∧ Below w.heap.size w w' := by
  have hbc := bytes_err w s A c l hC hc he
  obtain ⟨R, hR⟩ : ∃ R, errN s l = R := ⟨_, rfl⟩
  rw [hR] at hbc he ⊢
  have p0 : (R == 0) = false := beq_eq_false_iff_ne.2 he
  have p1 : (R != 0) = true := by rw [bne, p0]; rfl
  clear hC hc he hR
  go_enter Try.func15, Try.ntmps15
  go_wp2_with fail
  refine hbc.mono ?_
  rintro e w1 ⟨rfl, hb⟩
  have HB := Aside0.mk hb
  go_wp2
  go_ret2
  exact ⟨rfl, HB.out⟩
end Go.Proofs.Ytdhdofkpgaibiaa.Ex
namespace Go.Proofs.Ytdhdofkpgaibiaa.Ex
open Go.RowKit Go.Proofs.YtdhdofkpgaibiaaW.PrintWords Go.Proofs.YtdhdofkpgaibiaaW.PrintLast Go.Proofs.YtdhdofkpgaibiaaW.PrintMore Go.Proofs.Ytdhdofkpgaibiaa.PStampTells Go.Proofs.Ytdhdofkpgaibiaa.Sev Go.Proofs.Ytdhdofkpgaibiaa.Base
set_option linter.unusedVariables false
set_option linter.unusedSimpArgs false
theorem sev_inj (n : Nat) : ∀ m r s, sev n ++ r = sev m ++ s → n = m ∧ r = s := by
  induction n using Nat.strongRecOn with
  | ind n ih =>
    intro m r s h
    by_cases hn : n < 128
    · rw [sev_small hn] at h
      by_cases hm : m < 128
      · rw [sev_small hm] at h
        simp only [List.singleton_append, List.cons.injEq] at h
        exact ⟨by omega, h.2⟩
      · rw [sev_big hm] at h
        simp only [List.singleton_append, List.cons_append, List.cons.injEq] at h
        omega
    · rw [sev_big hn] at h
      by_cases hm : m < 128
      · rw [sev_small hm] at h
        simp only [List.singleton_append, List.cons_append, List.cons.injEq] at h
        omega
      · rw [sev_big hm] at h
        simp only [List.cons_append, List.cons.injEq] at h
        obtain ⟨h1, h2⟩ := ih (n / 128) (by omega) (m / 128) r s h.2
        exact ⟨by omega, h2⟩
theorem pce_inj {b b' r s : List Int} (h : pce b ++ r = pce b' ++ s) : b = b' ∧ r = s := by
  unfold pce at h
  rw [List.append_assoc, List.append_assoc] at h
  obtain ⟨h1, h2⟩ := sev_inj _ _ _ _ h
  exact List.append_inj h2 h1
theorem flat_flat {α β : Type} (f : β → List Int) (g : α → List β) (l : List α) : (((l.map g).flatten).map f).flatten = (l.map (fun k => ((g k).map f).flatten)).flatten := by
  induction l with
  | nil => rfl
  | cons x l ih => rw [List.map_cons, List.flatten_cons, List.map_append, List.flatten_append, ih, List.map_cons, List.flatten_cons]
def fl (d : Int) (e : S84) : List Int := ((nds d e).map (fun p => sev (hdN p.2))).flatten
theorem fl_eq (d : Int) (e : S84) : fl d e = sev (hdN e) ++ (e.f2.map (fl (wrap64 (d + 1)))).flatten := by
  unfold fl
  rw [nds_eq, List.map_cons, List.flatten_cons, flat_flat]
theorem fl_any (e : S84) : ∀ d d', fl d e = fl d' e := by
  induction e using ind with
  | h e ih =>
    intro d d'
    rw [fl_eq d, fl_eq d']
    congr 2
    exact List.map_congr_left (fun k hk => ih k hk _ _)
/-- The bytes of an expression, node by node. -/
theorem enc_eq (e : S84) : encN e = sev (hdN e) ++ (e.f2.map encN).flatten := by
  show fl 1 e = _
  rw [fl_eq]
  congr 2
  exact List.map_congr_left (fun k _ => fl_any k _ 1)
theorem ok_any (e : S84) : ∀ d d', (nds d e).all (fun p => okn p.2) = (nds d' e).all (fun p => okn p.2) := by
  induction e using ind with
  | h e ih =>
    intro d d'
    rw [nds_eq d, nds_eq d', List.all_cons, List.all_cons, List.all_flatten, List.all_flatten, List.all_map, List.all_map]
    congr 1
    rw [Bool.eq_iff_iff, List.all_eq_true, List.all_eq_true]
    constructor
    · intro h k hk
      have := h k hk
      simp only [Function.comp] at this ⊢
      rw [ih k hk _ (wrap64 (d + 1))]; exact this
    · intro h k hk
      have := h k hk
      simp only [Function.comp] at this ⊢
      rw [ih k hk _ (wrap64 (d' + 1))]; exact this
def okA (e : S84) : Prop := (nds 1 e).all (fun p => okn p.2) = true
theorem okA_cons {e : S84} (h : okA e) : okn e = true ∧ ∀ k ∈ e.f2, okA k := by
  unfold okA at h
  rw [nds_eq, List.all_cons, Bool.and_eq_true, List.all_flatten, List.all_map, List.all_eq_true] at h
  refine ⟨h.1, fun k hk => ?_⟩
  have := h.2 k hk
  simp only [Function.comp] at this
  unfold okA
  rw [ok_any k 1 (wrap64 (1 + 1))]
  exact this
theorem okn_bounds {e : S84} (h : okn e = true) : 0 ≤ e.f0 ∧ e.f0 ≤ 10 ∧ 0 ≤ e.f1 ∧ e.f1 ≤ 99 ∧ e.f2.length ≤ 4 := by
  unfold okn most okKids kidsOk at h
  rw [Bool.and_eq_true, decide_eq_true_eq] at h
  obtain ⟨⟨h1, h2⟩, h3⟩ := h
  refine ⟨?_, ?_, h1, ?_, ?_⟩ <;> (repeat' split at h3) <;> (try split at h2) <;> (try split at h2) <;> simp_all <;> omega
theorem lists_inj {α : Type} (f : α → List Int) (l : List α) : ∀ (l' : List α), l.length = l'.length → (∀ x ∈ l, ∀ y ∈ l', ∀ r s, f x ++ r = f y ++ s → x = y ∧ r = s) → ∀ r s, (l.map f).flatten ++ r = (l'.map f).flatten ++ s → l = l' ∧ r = s := by
  induction l with
  | nil =>
    intro l' hl _ r s h
    cases l' with
    | nil => exact ⟨rfl, h⟩
    | cons y l' => simp at hl
  | cons x l ih =>
    intro l' hl hp r s h
    cases l' with
    | nil => simp at hl
    | cons y l' =>
      rw [List.map_cons, List.map_cons, List.flatten_cons, List.flatten_cons, List.append_assoc, List.append_assoc] at h
      obtain ⟨h1, h2⟩ := hp x List.mem_cons_self y List.mem_cons_self _ _ h
      obtain ⟨h3, h4⟩ := ih l' (by simpa using hl) (fun a ha b hb => hp a (List.mem_cons_of_mem _ ha) b (List.mem_cons_of_mem _ hb)) r s h2
      exact ⟨by rw [h1, h3], h4⟩
theorem enc_inj (e : S84) : ∀ e', okA e → okA e' → ∀ r s, encN e ++ r = encN e' ++ s → e = e' ∧ r = s := by
  induction e using ind with
  | h e ih =>
    intro e' he he' r s h
    obtain ⟨h1, h2⟩ := okA_cons he
    obtain ⟨h1', h2'⟩ := okA_cons he'
    obtain ⟨a0, a1, a2, a3, a4⟩ := okn_bounds h1
    obtain ⟨b0, b1, b2, b3, b4⟩ := okn_bounds h1'
    rw [enc_eq e, enc_eq e', List.append_assoc, List.append_assoc] at h
    obtain ⟨h3, h4⟩ := sev_inj _ _ _ _ h
    unfold hdN at h3
    rw [if_pos (by omega), if_pos (by omega)] at h3
    have e0 : e.f0 = e'.f0 := by omega
    have e1 : e.f1 = e'.f1 := by omega
    have e2 : e.f2.length = e'.f2.length := by omega
    obtain ⟨h5, h6⟩ := lists_inj encN e.f2 e'.f2 e2 (fun x hx y hy r s hxy => ih x hx y (h2 x hx) (h2' y hy) r s hxy) r s h4
    refine ⟨?_, h6⟩
    cases e
    cases e'
    simp_all
theorem bytesOf_inj {s t : ByteArray} (h : bytesOf s = bytesOf t) : s = t := by
  unfold bytesOf at h
  have h1 := (List.map_inj_right (f := fun b : UInt8 => (b.toNat : Int)) (fun x y hxy => by
    have h0 : ((x.toNat : Nat) : Int) = ((y.toNat : Nat) : Int) := hxy
    have : x.toNat = y.toNat := by omega
    exact UInt8.toNat_inj.1 this)).1 h
  cases s
  cases t
  simp only at h1
  rw [Array.toList_inj] at h1
  rw [h1]
theorem right_okA {e : S84} (h : rightN e = 0) : okA e := by
  unfold rightN at h
  split at h
  · cases h
  · split at h
    · cases h
    · split at h
      · assumption
      · cases h
theorem told_inj {t u : S89} (ht : toldE t = 0) (hu : toldE u = 0) {r s : List Int} (h : toldB t ++ r = toldB u ++ s) : t = u ∧ r = s := by
  unfold toldB at h
  rw [List.append_assoc, List.append_assoc] at h
  obtain ⟨h1, h2⟩ := pce_inj h
  have hz : ∀ v : S89, toldE v = 0 → v.f1 = false → v.f2 = ⟨0, 0, []⟩ := by
    intro v hv hf
    unfold toldE at hv
    rw [if_pos hf] at hv
    split at hv
    · cases hv
    · rename_i hn
      have g0 : v.f2.f0 = 0 := Classical.not_not.1 (fun h => hn (Or.inl h))
      have g1 : v.f2.f1 = 0 := Classical.not_not.1 (fun h => hn (Or.inr (Or.inl h)))
      have g2 : v.f2.f2 = [] := Classical.not_not.1 (fun h => hn (Or.inr (Or.inr h)))
      generalize v.f2 = q at *
      cases q
      simp_all
  have hs : t.f0 = u.f0 := bytesOf_inj h1
  have fin : t.f1 = u.f1 ∧ t.f2 = u.f2 ∧ r = s := by
    cases hf : t.f1 with
    | false =>
      cases hg : u.f1 with
      | false =>
        rw [hf, hg] at h2
        simp only [if_true, List.singleton_append, List.cons.injEq, true_and] at h2
        exact ⟨rfl, by rw [hz t ht hf, hz u hu hg], h2⟩
      | true =>
        rw [hf, hg] at h2
        simp at h2
    | true =>
      cases hg : u.f1 with
      | false =>
        rw [hf, hg] at h2
        simp at h2
      | true =>
        rw [hf, hg] at h2
        rw [if_neg (by decide), if_neg (by decide)] at h2
        obtain ⟨h3, h4⟩ := pce_inj (List.cons.inj (show 1 :: (pce (encN t.f2) ++ r) = 1 :: (pce (encN u.f2) ++ s) from h2)).2
        obtain ⟨h5, _⟩ := enc_inj t.f2 u.f2 (right_okA (toldE_right ht hf)) (right_okA (toldE_right hu hg)) [] [] (by rw [h3])
        exact ⟨rfl, h5, h4⟩
  refine ⟨?_, fin.2.2⟩
  obtain ⟨f1, f2, _⟩ := fin
  cases t
  cases u
  simp_all
theorem bytesN_inj {s s' : ByteArray} {l l' : List S89} (hl : toldN l = 0) (hl' : toldN l' = 0) {r r' : List Int} (h : bytesN s l ++ r = bytesN s' l' ++ r') : s = s' ∧ l = l' ∧ r = r' := by
  obtain ⟨_, h1⟩ := told_right hl
  obtain ⟨_, h2⟩ := told_right hl'
  unfold bytesN at h
  rw [List.append_assoc, List.append_assoc, List.append_assoc, List.append_assoc] at h
  obtain ⟨h3, h4⟩ := pce_inj h
  obtain ⟨h5, h6⟩ := sev_inj _ _ _ _ h4
  obtain ⟨h7, h8⟩ := lists_inj toldB l l' h5 (fun x hx y hy r s hxy => told_inj (h1 x hx) (h2 y hy) hxy) r r' h6
  exact ⟨bytesOf_inj h3, h7, h8⟩
/-- The law: alike as far as the shorter one goes just if they are of the same. -/
theorem unlike {s s' : ByteArray} {l l' : List S89} (hl : toldN l = 0) (hl' : toldN l' = 0) :
    (bytesN s l).take (min (bytesN s l).length (bytesN s' l').length) = (bytesN s' l').take (min (bytesN s l).length (bytesN s' l').length) ↔ (s = s' ∧ l = l') := by
  constructor
  · intro h
    have h1 := List.take_append_drop (min (bytesN s l).length (bytesN s' l').length) (bytesN s l)
    have h2 := List.take_append_drop (min (bytesN s l).length (bytesN s' l').length) (bytesN s' l')
    rcases Nat.le_total (bytesN s l).length (bytesN s' l').length with h3 | h3
    · rw [Nat.min_eq_left h3, List.take_length] at h
      rw [Nat.min_eq_left h3, ← h] at h2
      obtain ⟨a, b, _⟩ := bytesN_inj hl hl' (r := _) (r' := []) (h2.trans (List.append_nil _).symm)
      exact ⟨a, b⟩
    · rw [Nat.min_eq_right h3, List.take_length] at h
      rw [Nat.min_eq_right h3, h] at h1
      obtain ⟨a, b, _⟩ := bytesN_inj hl hl' (r := []) (r' := _) ((List.append_nil _).trans h1.symm)
      exact ⟨a, b⟩
  · rintro ⟨rfl, rfl⟩
    rfl
end Go.Proofs.Ytdhdofkpgaibiaa.Ex
