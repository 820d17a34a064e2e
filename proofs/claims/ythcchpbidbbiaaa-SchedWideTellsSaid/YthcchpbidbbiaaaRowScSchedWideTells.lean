/- Proved: for every pool p and every slice of ints jobs, SchedWideTells(p, jobs) returns true: no condition. -/
import Derived.Test.YthcchpbidbbiaaaSce
import Derived.Test.YthcchpbidbbiaaaScf
import Derived.Test.YthcchpbidbbiaaaRows
import Derived.WalkKit
import Derived.ProofKit
import Derived.OpenShut
import Derived.ShutString
import Derived.ChangeOld
import Derived.Below
import Derived.SizedLaws
import Derived.Lib.SmallJoins
namespace Go.Proofs.Ythcchpbidbbiaaa.Sc
open Go.RowKit Go.Proofs.YthcchpbidbbiaaaW.PrintWords Go.Proofs.YthcchpbidbbiaaaW.PrintLast Go.Proofs.YthcchpbidbbiaaaW.PrintMore Go.Proofs.Ythcchpbidbbiaaa.PSchedSide
attribute [local go_sem] max2_int min2_int max_two min_two
set_option linter.unusedVariables false
set_option linter.unusedSimpArgs false
/-- The moves of Wide, for so many workers. -/
def wideTo : Nat → List S64
  | 0 => []
  | k + 1 => wideTo k ++ [⟨0, 0⟩, ⟨k + 1, 0⟩]
theorem wideTo_length (k : Nat) : (wideTo k).length = 2 * k := by
  induction k with
  | zero => rfl
  | succ k ih => simp only [wideTo, List.length_append, ih, List.length_cons, List.length_nil]; omega
theorem lit2 (w : World) (a b c d : Int) : ReadsRow (k64.K (w.alloc (.cells #[.int .i64 a, .int .i64 b, .int .i64 c, .int .i64 d] 64))) 2 (w.alloc (.cells #[.int .i64 a, .int .i64 b, .int .i64 c, .int .i64 d] 64)) (some ⟨w.heap.size, 0, none⟩) 2 [⟨a, b⟩, ⟨c, d⟩] := by
  have h1 : (w.alloc (.cells #[.int .i64 a, .int .i64 b, .int .i64 c, .int .i64 d] 64)).ownsRow 0 64 2 (.slice (some ⟨w.heap.size, 0, none⟩) 2 2) 2 [.int .i64 a, .int .i64 b, .int .i64 c, .int .i64 d] := by
    have h2 := World.ownsRow_lit (base := 0) (e := 64) (size := 2) w #[.int .i64 a, .int .i64 b, .int .i64 c, .int .i64 d] 2 (Nat.zero_le _) (by simp [maxLen]) (by simp)
    simpa using h2
  have h3 : Kd.R k64 64 (w.alloc (.cells #[.int .i64 a, .int .i64 b, .int .i64 c, .int .i64 d] 64)) 0 (fun _ => True) (.slice (some ⟨w.heap.size, 0, none⟩) 2 2) [⟨a, b⟩, ⟨c, d⟩] :=
    ⟨fun _ _ => trivial, _, h1, Reps.c2 (k64_mkM _ _ _ (⟨a, b⟩ : S64)) (Reps.c2 (k64_mkM _ _ _ (⟨c, d⟩ : S64)) (Reps.none _ _))⟩
  exact (Kd.R_reads' h3).2.2
theorem mM_of_K64 {w w1 : World} {base : Nat} {ok : Nat → Prop} {x : S64} {cs : List Value} (h : k64.K w x cs) : k64.M w1 base ok x cs := by
  obtain rfl := k64_open h
  exact k64_mkM w1 base ok x
set_option maxHeartbeats 8000000 in
set_option maxRecDepth 1000000 in
theorem wide_bad (pw pj pr : Int) (A : Option Addr) (n c : Nat) (e1 n1 : Int) (w : World) (he : e1 ≠ 0) (hN : ∀ W : World, Below w.heap.size w W → Calls Try.prog 15 #[poolV pw pj pr, .slice A n c] W fun e w' => e = .returned (.tuple #[.pointer none, .int .i64 e1, .int .i64 n1]) ∧ Below W.heap.size W w') :
    Calls Try.prog 13 #[poolV pw pj pr, .slice A n c] w fun e w' => e = .returned (.tuple #[.slice none 0 0, .int .i64 e1, .int .i64 n1]) ∧ Below w.heap.size w w' := by
  have HN := Aside0.mk (hN _ (below_alloc (Below.refl w.heap.size w) (.cells #[.int .i64 pw, .int .i64 pj, .int .i64 pr] 23)))
  have HB := Aside0.mk (below_alloc (Below.refl w.heap.size w) (.cells #[.int .i64 pw, .int .i64 pj, .int .i64 pr] 23))
  unfold poolV at HN ⊢
  have b0 : (e1 != 0) = true := by simp [he]
  clear he hN
  go_enter Try.func13, Try.ntmps13
  go_wp2_with (first | (go_at_call 15; (with_reducible refine HN.out.mono ?_); rintro e w2 ⟨rfl, hb⟩; have HB2 := Aside0.mk (HB.out.trans (hb.mono HB.out.size)); clear hb))
  go_ret3
  exact ⟨rfl, HB2.out⟩
set_option maxHeartbeats 8000000 in
set_option maxRecDepth 1000000 in
theorem wide_ok (pw pj pr : Int) (A : Option Addr) (c : Nat) (xs : List Int) (w : World) (hp : PoolOk pw pj pr) (hC : Kd.C (Kd.int .i64) w A xs.length xs) (hn : xs.length ≤ 1000) (ha : ∀ j : Nat, j < xs.length → JobOk (rd xs j)) :
    Calls Try.prog 13 #[poolV pw pj pr, .slice A xs.length c] w fun e w' => ∃ A2 c2, e = .returned (.tuple #[.slice A2 (wideTo (min xs.length pw.toNat)).length c2, .int .i64 0, .int .i64 0]) ∧ Kd.R k64 64 w' w.heap.size (fun _ => True) (.slice A2 (wideTo (min xs.length pw.toNat)).length c2) (wideTo (min xs.length pw.toNat)) ∧ Below w.heap.size w w' := by
  have HN := Aside0.mk (new_ok pw pj pr A c xs _ hp (Kd.C_below hC (below_alloc (Below.refl w.heap.size w) (.cells #[.int .i64 pw, .int .i64 pj, .int .i64 pr] 23))) hn ha)
  have HB := Aside0.mk (below_alloc (Below.refl w.heap.size w) (.cells #[.int .i64 pw, .int .i64 pj, .int .i64 pr] 23))
  have HX := Aside0.mk (heap_alloc_new w (.cells #[.int .i64 pw, .int .i64 pj, .int .i64 pr] 23))
  unfold poolV at HN ⊢
  obtain ⟨⟨hp0, hp1⟩, _⟩ := hp
  by_cases hle : (xs.length : Int) ≤ pw
  · have hq : min xs.length pw.toNat = xs.length := by omega
    rw [hq]
    have hmin : min (xs.length : Int) pw = (xs.length : Int) := by omega
    have hq8 : xs.length ≤ 8 := by omega
    clear hC ha hq
    go_enter Try.func13, Try.ntmps13
    go_wp2_with (first | (go_at_call 15; (with_reducible refine HN.out.mono ?_); rintro e w2 ⟨g, s, rfl, hi, hb, hf⟩; have HB2 := Aside0.mk (HB.out.trans (hb.mono HB.out.size)); have HX2 := Aside0.mk ((hb.block _ (blk_lt HX.out)).trans HX.out); have z0 : w2.cell? ⟨w.heap.size, 0, none⟩ = some (.int .i64 pw) := (blk_cell HX2.out 0).trans rfl; clear hi hb hf))
    go_loopw [10, 28] (fun v i wr => ∃ k : Nat, i = .int .i64 k ∧ k ≤ xs.length ∧ Kd.R k64 64 wr w.heap.size (fun _ => True) v (wideTo k) ∧ Below w.heap.size w wr) (fun _ i _ => xs.length - (intOf i).toNat)
    case atStart => exact ⟨0, rfl, Nat.zero_le _, Kd.R_nil _ _ _ _ _, HB2.out⟩
    case round =>
      obtain ⟨k, rfl, hk, ho, hb⟩ := hrel
      have HO := Aside0.mk ho
      have HB3 := Aside0.mk hb
      clear ho hb
      by_cases hlt : k < xs.length
      · have p0 : decide ((k : Int) < (xs.length : Int)) = true := decide_eq_true (by omega)
        have HLN := Aside0.mk (show (wideTo k).length ≤ 16 from by rw [wideTo_length]; omega)
        have HL2 := Aside0.mk (lit2 wr 0 0 (k + 1) 0)
        have HB4 := Aside0.mk (below_alloc HB3.out (.cells #[.int .i64 0, .int .i64 0, .int .i64 (k + 1), .int .i64 0] 64))
        have HO4 := Aside0.mk (Kd.R_alloc HO.out (.cells #[.int .i64 0, .int .i64 0, .int .i64 (k + 1), .int .i64 0] 64))
        go_wp2_with (first | ((with_reducible refine gate_builtin (b := .append) (xs := #[.tmp 31, .tmp 36]) rfl ?_); at_builtin; refine Kd.R_append_rows k64 (w0 := w) w.heap.size rfl (.tmp 31) (.tmp 36) 26 64 (.agg #[.int .i64 0, .int .i64 0]) 16 rfl Try.underlying26 info64 rfl (by decide) (by omega) _ (wideTo k) [⟨0, 0⟩, ⟨k + 1, 0⟩] (some ⟨wr.heap.size, 0, none⟩) 2 2 (fun _ => True) (fun _ => False) rfl rfl HO4.out HL2.out ?aM (fun _ h => h.elim) (fun _ _ => trivial) HB4.out ?aS ?aL ?_; (case aM => intro x cs h; exact mM_of_K64 h); (case aS => exact HB4.out.size); (case aL => have := HLN.out; omega); intro v1 w3 ho hb hg hat; have HO1 := Aside0.mk ho; have HB5 := Aside0.mk hb; clear ho hb hg hat))
        go_roundw
        case rel => exact ⟨k + 1, by go_num, by omega, HO1.out, HB5.out⟩
        case measure => simp [intOf]; omega
      · have p0 : decide ((k : Int) < (xs.length : Int)) = false := decide_eq_false (by omega)
        have hkn : k = xs.length := by omega
        obtain ⟨A2, c2, hv⟩ := Kd.R_slice HO.out
        subst hv
        subst hkn
        go_wp2
        go_ret3
        exact ⟨A2, c2, rfl, HO.out, HB3.out⟩
  · obtain ⟨q, rfl⟩ : ∃ q : Nat, pw = q := ⟨pw.toNat, by omega⟩
    have hq : min xs.length (q : Int).toNat = q := by omega
    rw [hq]
    have hmin : min (xs.length : Int) (q : Int) = (q : Int) := by omega
    have hq8 : q ≤ 8 := by omega
    clear hC ha hq
    go_enter Try.func13, Try.ntmps13
    go_wp2_with (first | (go_at_call 15; (with_reducible refine HN.out.mono ?_); rintro e w2 ⟨g, s, rfl, hi, hb, hf⟩; have HB2 := Aside0.mk (HB.out.trans (hb.mono HB.out.size)); have HX2 := Aside0.mk ((hb.block _ (blk_lt HX.out)).trans HX.out); have z0 : w2.cell? ⟨w.heap.size, 0, none⟩ = some (.int .i64 (q : Int)) := (blk_cell HX2.out 0).trans rfl; clear hi hb hf))
    go_loopw [10, 28] (fun v i wr => ∃ k : Nat, i = .int .i64 k ∧ k ≤ q ∧ Kd.R k64 64 wr w.heap.size (fun _ => True) v (wideTo k) ∧ Below w.heap.size w wr) (fun _ i _ => q - (intOf i).toNat)
    case atStart => exact ⟨0, rfl, Nat.zero_le _, Kd.R_nil _ _ _ _ _, HB2.out⟩
    case round =>
      obtain ⟨k, rfl, hk, ho, hb⟩ := hrel
      have HO := Aside0.mk ho
      have HB3 := Aside0.mk hb
      clear ho hb
      by_cases hlt : k < q
      · have p0 : decide ((k : Int) < (q : Int)) = true := decide_eq_true (by omega)
        have HLN := Aside0.mk (show (wideTo k).length ≤ 16 from by rw [wideTo_length]; omega)
        have HL2 := Aside0.mk (lit2 wr 0 0 (k + 1) 0)
        have HB4 := Aside0.mk (below_alloc HB3.out (.cells #[.int .i64 0, .int .i64 0, .int .i64 (k + 1), .int .i64 0] 64))
        have HO4 := Aside0.mk (Kd.R_alloc HO.out (.cells #[.int .i64 0, .int .i64 0, .int .i64 (k + 1), .int .i64 0] 64))
        go_wp2_with (first | ((with_reducible refine gate_builtin (b := .append) (xs := #[.tmp 31, .tmp 36]) rfl ?_); at_builtin; refine Kd.R_append_rows k64 (w0 := w) w.heap.size rfl (.tmp 31) (.tmp 36) 26 64 (.agg #[.int .i64 0, .int .i64 0]) 16 rfl Try.underlying26 info64 rfl (by decide) (by omega) _ (wideTo k) [⟨0, 0⟩, ⟨k + 1, 0⟩] (some ⟨wr.heap.size, 0, none⟩) 2 2 (fun _ => True) (fun _ => False) rfl rfl HO4.out HL2.out ?aM (fun _ h => h.elim) (fun _ _ => trivial) HB4.out ?aS ?aL ?_; (case aM => intro x cs h; exact mM_of_K64 h); (case aS => exact HB4.out.size); (case aL => have := HLN.out; omega); intro v1 w3 ho hb hg hat; have HO1 := Aside0.mk ho; have HB5 := Aside0.mk hb; clear ho hb hg hat))
        go_roundw
        case rel => exact ⟨k + 1, by go_num, by omega, HO1.out, HB5.out⟩
        case measure => simp [intOf]; omega
      · have p0 : decide ((k : Int) < (q : Int)) = false := decide_eq_false (by omega)
        have hkn : k = q := by omega
        obtain ⟨A2, c2, hv⟩ := Kd.R_slice HO.out
        subst hv
        subst hkn
        go_wp2
        go_ret3
        exact ⟨A2, c2, rfl, HO.out, HB3.out⟩
end Go.Proofs.Ythcchpbidbbiaaa.Sc
namespace Go.Proofs.Ythcchpbidbbiaaa.Sc
open Go.RowKit Go.Proofs.YthcchpbidbbiaaaW.PrintWords Go.Proofs.YthcchpbidbbiaaaW.PrintLast Go.Proofs.YthcchpbidbbiaaaW.PrintMore Go.Proofs.Ythcchpbidbbiaaa.PSchedSide
set_option linter.unusedVariables false
set_option linter.unusedSimpArgs false
set_option maxRecDepth 1000000 in
theorem rwithin_true (a lo hi : Int) (w : World) (h : lo ≤ a ∧ a ≤ hi) : Calls Try.prog 46 #[.int .i64 a, .int .i64 lo, .int .i64 hi] w fun e w' => e = .returned (.bool true) ∧ Below w.heap.size w w' := by
  have HB := Aside0.mk (Below.refl w.heap.size w)
  have h1 : decide (lo ≤ a) = true := decide_eq_true h.1
  have h2 : decide (a ≤ hi) = true := decide_eq_true h.2
  clear h
  go_enter Try.func46, Try.ntmps46
  go_wp2
  go_ret
  exact ⟨rfl, HB.out⟩
set_option maxRecDepth 1000000 in
theorem rwithin_false (a lo hi : Int) (w : World) (h : ¬ (lo ≤ a ∧ a ≤ hi)) : Calls Try.prog 46 #[.int .i64 a, .int .i64 lo, .int .i64 hi] w fun e w' => e = .returned (.bool false) ∧ Below w.heap.size w w' := by
  have HB := Aside0.mk (Below.refl w.heap.size w)
  by_cases h1 : lo ≤ a
  · have h2 : decide (a ≤ hi) = false := decide_eq_false (fun h2 => h ⟨h1, h2⟩)
    have h3 : decide (lo ≤ a) = true := decide_eq_true h1
    clear h h1
    go_enter Try.func46, Try.ntmps46
    go_wp2
    go_ret
    exact ⟨rfl, HB.out⟩
  · have h3 : decide (lo ≤ a) = false := decide_eq_false h1
    clear h h1
    go_enter Try.func46, Try.ntmps46
    go_wp2
    go_ret
    exact ⟨rfl, HB.out⟩
set_option maxHeartbeats 4000000 in
set_option maxRecDepth 1000000 in
theorem may_bad_pool (pw pj pr : Int) (A : Option Addr) (n c : Nat) (w : World) (h : ¬ PoolOk pw pj pr) : Calls Try.prog 14 #[poolV pw pj pr, .slice A n c] w fun e w' => e = .returned (.tuple #[.int .i64 1, .int .i64 (-1)]) ∧ Below w.heap.size w w' := by
  unfold poolV
  have HB := Aside0.mk (below_alloc (Below.refl w.heap.size w) (.cells #[.int .i64 pw, .int .i64 pj, .int .i64 pr] 23))
  have HX := Aside0.mk (heap_alloc_new w (.cells #[.int .i64 pw, .int .i64 pj, .int .i64 pr] 23))
  by_cases h1 : 1 ≤ pw ∧ pw ≤ 8
  · have H1 := Aside0.mk h1
    by_cases h2 : 1 ≤ pj ∧ pj ≤ 8
    · have H2 := Aside0.mk h2
      have H3 := Aside0.mk (show ¬ (1 ≤ pr ∧ pr ≤ 8) from fun h3 => h ⟨h1, h2, h3⟩)
      clear h h1 h2
      go_enter Try.func14, Try.ntmps14
      go_wp2_with (first | (go_at_call 46; (with_reducible refine (rwithin_true pw 1 8 _ H1.out).mono ?_); rintro e w2 ⟨rfl, hb⟩; have n1_ := Aside0.mk (HB.out.trans (hb.mono HB.out.size)); have n2_ := Aside0.mk ((hb.block _ (blk_lt HX.out)).trans HX.out); clear HB HX; have HB := n1_; have HX := n2_; clear n1_ n2_ hb; have k0 : w2.cell? ⟨w.heap.size, 0, none⟩ = some (.int .i64 pw) := (blk_cell HX.out 0).trans rfl; have k1 : w2.cell? ⟨w.heap.size, 1, none⟩ = some (.int .i64 pj) := (blk_cell HX.out 1).trans rfl; have k2 : w2.cell? ⟨w.heap.size, 2, none⟩ = some (.int .i64 pr) := (blk_cell HX.out 2).trans rfl) | (go_at_call 46; (with_reducible refine (rwithin_true pj 1 8 _ H2.out).mono ?_); rintro e w2 ⟨rfl, hb⟩; have n1_ := Aside0.mk (HB.out.trans (hb.mono HB.out.size)); have n2_ := Aside0.mk ((hb.block _ (blk_lt HX.out)).trans HX.out); clear HB HX; have HB := n1_; have HX := n2_; clear n1_ n2_ hb; have k0 : w2.cell? ⟨w.heap.size, 0, none⟩ = some (.int .i64 pw) := (blk_cell HX.out 0).trans rfl; have k1 : w2.cell? ⟨w.heap.size, 1, none⟩ = some (.int .i64 pj) := (blk_cell HX.out 1).trans rfl; have k2 : w2.cell? ⟨w.heap.size, 2, none⟩ = some (.int .i64 pr) := (blk_cell HX.out 2).trans rfl) | (go_at_call 46; (with_reducible refine (rwithin_false pr 1 8 _ H3.out).mono ?_); rintro e w2 ⟨rfl, hb⟩; have n1_ := Aside0.mk (HB.out.trans (hb.mono HB.out.size)); have n2_ := Aside0.mk ((hb.block _ (blk_lt HX.out)).trans HX.out); clear HB HX; have HB := n1_; have HX := n2_; clear n1_ n2_ hb; have k0 : w2.cell? ⟨w.heap.size, 0, none⟩ = some (.int .i64 pw) := (blk_cell HX.out 0).trans rfl; have k1 : w2.cell? ⟨w.heap.size, 1, none⟩ = some (.int .i64 pj) := (blk_cell HX.out 1).trans rfl; have k2 : w2.cell? ⟨w.heap.size, 2, none⟩ = some (.int .i64 pr) := (blk_cell HX.out 2).trans rfl))
      go_ret2
      exact ⟨rfl, HB.out⟩
    · have H2 := Aside0.mk h2
      clear h h1 h2
      go_enter Try.func14, Try.ntmps14
      go_wp2_with (first | (go_at_call 46; (with_reducible refine (rwithin_true pw 1 8 _ H1.out).mono ?_); rintro e w2 ⟨rfl, hb⟩; have n1_ := Aside0.mk (HB.out.trans (hb.mono HB.out.size)); have n2_ := Aside0.mk ((hb.block _ (blk_lt HX.out)).trans HX.out); clear HB HX; have HB := n1_; have HX := n2_; clear n1_ n2_ hb; have k0 : w2.cell? ⟨w.heap.size, 0, none⟩ = some (.int .i64 pw) := (blk_cell HX.out 0).trans rfl; have k1 : w2.cell? ⟨w.heap.size, 1, none⟩ = some (.int .i64 pj) := (blk_cell HX.out 1).trans rfl; have k2 : w2.cell? ⟨w.heap.size, 2, none⟩ = some (.int .i64 pr) := (blk_cell HX.out 2).trans rfl) | (go_at_call 46; (with_reducible refine (rwithin_false pj 1 8 _ H2.out).mono ?_); rintro e w2 ⟨rfl, hb⟩; have n1_ := Aside0.mk (HB.out.trans (hb.mono HB.out.size)); have n2_ := Aside0.mk ((hb.block _ (blk_lt HX.out)).trans HX.out); clear HB HX; have HB := n1_; have HX := n2_; clear n1_ n2_ hb; have k0 : w2.cell? ⟨w.heap.size, 0, none⟩ = some (.int .i64 pw) := (blk_cell HX.out 0).trans rfl; have k1 : w2.cell? ⟨w.heap.size, 1, none⟩ = some (.int .i64 pj) := (blk_cell HX.out 1).trans rfl; have k2 : w2.cell? ⟨w.heap.size, 2, none⟩ = some (.int .i64 pr) := (blk_cell HX.out 2).trans rfl))
      go_ret2
      exact ⟨rfl, HB.out⟩
  · have H1 := Aside0.mk h1
    clear h h1
    go_enter Try.func14, Try.ntmps14
    go_wp2_with (first | (go_at_call 46; (with_reducible refine (rwithin_false pw 1 8 _ H1.out).mono ?_); rintro e w2 ⟨rfl, hb⟩; have n1_ := Aside0.mk (HB.out.trans (hb.mono HB.out.size)); have n2_ := Aside0.mk ((hb.block _ (blk_lt HX.out)).trans HX.out); clear HB HX; have HB := n1_; have HX := n2_; clear n1_ n2_ hb; have k0 : w2.cell? ⟨w.heap.size, 0, none⟩ = some (.int .i64 pw) := (blk_cell HX.out 0).trans rfl; have k1 : w2.cell? ⟨w.heap.size, 1, none⟩ = some (.int .i64 pj) := (blk_cell HX.out 1).trans rfl; have k2 : w2.cell? ⟨w.heap.size, 2, none⟩ = some (.int .i64 pr) := (blk_cell HX.out 2).trans rfl))
    go_ret2
    exact ⟨rfl, HB.out⟩
set_option maxHeartbeats 4000000 in
set_option maxRecDepth 1000000 in
theorem may_long (pw pj pr : Int) (A : Option Addr) (n c : Nat) (w : World) (hp : PoolOk pw pj pr) (hn : 1000 < n) : Calls Try.prog 14 #[poolV pw pj pr, .slice A n c] w fun e w' => e = .returned (.tuple #[.int .i64 2, .int .i64 (-1)]) ∧ Below w.heap.size w w' := by
  unfold poolV
  have HB := Aside0.mk (below_alloc (Below.refl w.heap.size w) (.cells #[.int .i64 pw, .int .i64 pj, .int .i64 pr] 23))
  have HX := Aside0.mk (heap_alloc_new w (.cells #[.int .i64 pw, .int .i64 pj, .int .i64 pr] 23))
  obtain ⟨h1, h2, h3⟩ := hp
  have H1 := Aside0.mk h1
  have H2 := Aside0.mk h2
  have H3 := Aside0.mk h3
  clear h1 h2 h3
  have p0 : decide ((1000 : Int) < (n : Int)) = true := decide_eq_true (by omega)
  go_enter Try.func14, Try.ntmps14
  go_wp2_with (first | (go_at_call 46; (with_reducible refine (rwithin_true pw 1 8 _ H1.out).mono ?_); rintro e w2 ⟨rfl, hb⟩; have n1_ := Aside0.mk (HB.out.trans (hb.mono HB.out.size)); have n2_ := Aside0.mk ((hb.block _ (blk_lt HX.out)).trans HX.out); clear HB HX; have HB := n1_; have HX := n2_; clear n1_ n2_ hb; have k0 : w2.cell? ⟨w.heap.size, 0, none⟩ = some (.int .i64 pw) := (blk_cell HX.out 0).trans rfl; have k1 : w2.cell? ⟨w.heap.size, 1, none⟩ = some (.int .i64 pj) := (blk_cell HX.out 1).trans rfl; have k2 : w2.cell? ⟨w.heap.size, 2, none⟩ = some (.int .i64 pr) := (blk_cell HX.out 2).trans rfl) | (go_at_call 46; (with_reducible refine (rwithin_true pj 1 8 _ H2.out).mono ?_); rintro e w2 ⟨rfl, hb⟩; have n1_ := Aside0.mk (HB.out.trans (hb.mono HB.out.size)); have n2_ := Aside0.mk ((hb.block _ (blk_lt HX.out)).trans HX.out); clear HB HX; have HB := n1_; have HX := n2_; clear n1_ n2_ hb; have k0 : w2.cell? ⟨w.heap.size, 0, none⟩ = some (.int .i64 pw) := (blk_cell HX.out 0).trans rfl; have k1 : w2.cell? ⟨w.heap.size, 1, none⟩ = some (.int .i64 pj) := (blk_cell HX.out 1).trans rfl; have k2 : w2.cell? ⟨w.heap.size, 2, none⟩ = some (.int .i64 pr) := (blk_cell HX.out 2).trans rfl) | (go_at_call 46; (with_reducible refine (rwithin_true pr 1 8 _ H3.out).mono ?_); rintro e w2 ⟨rfl, hb⟩; have n1_ := Aside0.mk (HB.out.trans (hb.mono HB.out.size)); have n2_ := Aside0.mk ((hb.block _ (blk_lt HX.out)).trans HX.out); clear HB HX; have HB := n1_; have HX := n2_; clear n1_ n2_ hb; have k0 : w2.cell? ⟨w.heap.size, 0, none⟩ = some (.int .i64 pw) := (blk_cell HX.out 0).trans rfl; have k1 : w2.cell? ⟨w.heap.size, 1, none⟩ = some (.int .i64 pj) := (blk_cell HX.out 1).trans rfl; have k2 : w2.cell? ⟨w.heap.size, 2, none⟩ = some (.int .i64 pr) := (blk_cell HX.out 2).trans rfl))
  go_ret2
  exact ⟨rfl, HB.out⟩
set_option maxHeartbeats 4000000 in
set_option maxRecDepth 1000000 in
theorem may_bad_job (pw pj pr : Int) (A : Option Addr) (c : Nat) (xs : List Int) (i : Nat) (w : World) (hp : PoolOk pw pj pr) (hC : Kd.C (Kd.int .i64) w A xs.length xs) (hn : xs.length ≤ 1000) (hi : i < xs.length) (hb : ¬ JobOk (rd xs i)) (ha : ∀ j : Nat, j < i → JobOk (rd xs j)) :
    Calls Try.prog 14 #[poolV pw pj pr, .slice A xs.length c] w fun e w' => e = .returned (.tuple #[.int .i64 1, .int .i64 i]) ∧ Below w.heap.size w w' := by
  unfold poolV
  have HB := Aside0.mk (below_alloc (Below.refl w.heap.size w) (.cells #[.int .i64 pw, .int .i64 pj, .int .i64 pr] 23))
  have HX := Aside0.mk (heap_alloc_new w (.cells #[.int .i64 pw, .int .i64 pj, .int .i64 pr] 23))
  obtain ⟨h1, h2, h3⟩ := hp
  have H1 := Aside0.mk h1
  have H2 := Aside0.mk h2
  have H3 := Aside0.mk h3
  clear h1 h2 h3
  have p0 : decide ((1000 : Int) < (xs.length : Int)) = false := decide_eq_false (by omega)
  have HC := Aside0.mk hC
  have HBAD := Aside0.mk hb
  have HOKJ := Aside0.mk ha
  clear hC hb ha
  go_enter Try.func14, Try.ntmps14
  go_wp2_with (first | (go_at_call 46; (with_reducible refine (rwithin_true pw 1 8 _ H1.out).mono ?_); rintro e w2 ⟨rfl, hb⟩; have n1_ := Aside0.mk (HB.out.trans (hb.mono HB.out.size)); have n2_ := Aside0.mk ((hb.block _ (blk_lt HX.out)).trans HX.out); clear HB HX; have HB := n1_; have HX := n2_; clear n1_ n2_ hb; have k0 : w2.cell? ⟨w.heap.size, 0, none⟩ = some (.int .i64 pw) := (blk_cell HX.out 0).trans rfl; have k1 : w2.cell? ⟨w.heap.size, 1, none⟩ = some (.int .i64 pj) := (blk_cell HX.out 1).trans rfl; have k2 : w2.cell? ⟨w.heap.size, 2, none⟩ = some (.int .i64 pr) := (blk_cell HX.out 2).trans rfl) | (go_at_call 46; (with_reducible refine (rwithin_true pj 1 8 _ H2.out).mono ?_); rintro e w2 ⟨rfl, hb⟩; have n1_ := Aside0.mk (HB.out.trans (hb.mono HB.out.size)); have n2_ := Aside0.mk ((hb.block _ (blk_lt HX.out)).trans HX.out); clear HB HX; have HB := n1_; have HX := n2_; clear n1_ n2_ hb; have k0 : w2.cell? ⟨w.heap.size, 0, none⟩ = some (.int .i64 pw) := (blk_cell HX.out 0).trans rfl; have k1 : w2.cell? ⟨w.heap.size, 1, none⟩ = some (.int .i64 pj) := (blk_cell HX.out 1).trans rfl; have k2 : w2.cell? ⟨w.heap.size, 2, none⟩ = some (.int .i64 pr) := (blk_cell HX.out 2).trans rfl) | (go_at_call 46; (with_reducible refine (rwithin_true pr 1 8 _ H3.out).mono ?_); rintro e w2 ⟨rfl, hb⟩; have n1_ := Aside0.mk (HB.out.trans (hb.mono HB.out.size)); have n2_ := Aside0.mk ((hb.block _ (blk_lt HX.out)).trans HX.out); clear HB HX; have HB := n1_; have HX := n2_; clear n1_ n2_ hb; have k0 : w2.cell? ⟨w.heap.size, 0, none⟩ = some (.int .i64 pw) := (blk_cell HX.out 0).trans rfl; have k1 : w2.cell? ⟨w.heap.size, 1, none⟩ = some (.int .i64 pj) := (blk_cell HX.out 1).trans rfl; have k2 : w2.cell? ⟨w.heap.size, 2, none⟩ = some (.int .i64 pr) := (blk_cell HX.out 2).trans rfl))
  go_loopw [6] (fun t wr => ∃ k : Nat, t = .int .i64 k ∧ k ≤ i ∧ Below w.heap.size w wr ∧ wr.heap[w.heap.size]? = some (.cells #[.int .i64 pw, .int .i64 pj, .int .i64 pr] 23 (0, 0))) (fun t _ => xs.length - (intOf t).toNat)
  case atStart => exact ⟨0, rfl, Nat.zero_le _, HB.out, HX.out⟩
  case round =>
    obtain ⟨k, rfl, hk, hb, hx⟩ := hrel
    clear HB HX
    have HB := Aside0.mk hb
    have HX := Aside0.mk hx
    clear hb hx
    have q0 : decide ((k : Int) < (xs.length : Int)) = true := decide_eq_true (by omega)
    have q1 := eq_true (show (k : Int) < (xs.length : Int) by omega)
    obtain ⟨ad, ead, hy⟩ := Kd.at_int HC.out k (Int.natCast_nonneg _) (by omega)
    subst ead
    rw [Int.toNat_natCast] at hy
    replace hy := pw_cell_below HB.out hy
    by_cases hki : k = i
    · subst hki
      go_wp2_with (first | (go_at_call 46; (with_reducible refine (rwithin_false (rd xs k) 0 1000 _ HBAD.out).mono ?_); rintro e w2 ⟨rfl, hb⟩; have n1_ := Aside0.mk (HB.out.trans (hb.mono HB.out.size)); have n2_ := Aside0.mk ((hb.block _ (blk_lt HX.out)).trans HX.out); clear HB HX; have HB := n1_; have HX := n2_; clear n1_ n2_ hb; have k0 : w2.cell? ⟨w.heap.size, 0, none⟩ = some (.int .i64 pw) := (blk_cell HX.out 0).trans rfl; have k1 : w2.cell? ⟨w.heap.size, 1, none⟩ = some (.int .i64 pj) := (blk_cell HX.out 1).trans rfl; have k2 : w2.cell? ⟨w.heap.size, 2, none⟩ = some (.int .i64 pr) := (blk_cell HX.out 2).trans rfl))
      go_ret2
      exact ⟨rfl, HB.out⟩
    · have HJ := Aside0.mk (HOKJ.out k (by omega))
      go_wp2_with (first | (go_at_call 46; (with_reducible refine (rwithin_true (rd xs k) 0 1000 _ HJ.out).mono ?_); rintro e w2 ⟨rfl, hb⟩; have n1_ := Aside0.mk (HB.out.trans (hb.mono HB.out.size)); have n2_ := Aside0.mk ((hb.block _ (blk_lt HX.out)).trans HX.out); clear HB HX; have HB := n1_; have HX := n2_; clear n1_ n2_ hb; have k0 : w2.cell? ⟨w.heap.size, 0, none⟩ = some (.int .i64 pw) := (blk_cell HX.out 0).trans rfl; have k1 : w2.cell? ⟨w.heap.size, 1, none⟩ = some (.int .i64 pj) := (blk_cell HX.out 1).trans rfl; have k2 : w2.cell? ⟨w.heap.size, 2, none⟩ = some (.int .i64 pr) := (blk_cell HX.out 2).trans rfl))
      go_roundw
      case rel => exact ⟨k + 1, by go_num, by omega, HB.out, HX.out⟩
      case measure => simp [intOf]; omega
set_option maxHeartbeats 4000000 in
set_option maxRecDepth 1000000 in
theorem may_ok (pw pj pr : Int) (A : Option Addr) (c : Nat) (xs : List Int) (w : World) (hp : PoolOk pw pj pr) (hC : Kd.C (Kd.int .i64) w A xs.length xs) (hn : xs.length ≤ 1000) (ha : ∀ j : Nat, j < xs.length → JobOk (rd xs j)) :
    Calls Try.prog 14 #[poolV pw pj pr, .slice A xs.length c] w fun e w' => e = .returned (.tuple #[.int .i64 0, .int .i64 0]) ∧ Below w.heap.size w w' := by
  unfold poolV
  have HB := Aside0.mk (below_alloc (Below.refl w.heap.size w) (.cells #[.int .i64 pw, .int .i64 pj, .int .i64 pr] 23))
  have HX := Aside0.mk (heap_alloc_new w (.cells #[.int .i64 pw, .int .i64 pj, .int .i64 pr] 23))
  obtain ⟨h1, h2, h3⟩ := hp
  have H1 := Aside0.mk h1
  have H2 := Aside0.mk h2
  have H3 := Aside0.mk h3
  clear h1 h2 h3
  have p0 : decide ((1000 : Int) < (xs.length : Int)) = false := decide_eq_false (by omega)
  have HC := Aside0.mk hC
  have HOKJ := Aside0.mk ha
  clear hC ha
  go_enter Try.func14, Try.ntmps14
  go_wp2_with (first | (go_at_call 46; (with_reducible refine (rwithin_true pw 1 8 _ H1.out).mono ?_); rintro e w2 ⟨rfl, hb⟩; have n1_ := Aside0.mk (HB.out.trans (hb.mono HB.out.size)); have n2_ := Aside0.mk ((hb.block _ (blk_lt HX.out)).trans HX.out); clear HB HX; have HB := n1_; have HX := n2_; clear n1_ n2_ hb; have k0 : w2.cell? ⟨w.heap.size, 0, none⟩ = some (.int .i64 pw) := (blk_cell HX.out 0).trans rfl; have k1 : w2.cell? ⟨w.heap.size, 1, none⟩ = some (.int .i64 pj) := (blk_cell HX.out 1).trans rfl; have k2 : w2.cell? ⟨w.heap.size, 2, none⟩ = some (.int .i64 pr) := (blk_cell HX.out 2).trans rfl) | (go_at_call 46; (with_reducible refine (rwithin_true pj 1 8 _ H2.out).mono ?_); rintro e w2 ⟨rfl, hb⟩; have n1_ := Aside0.mk (HB.out.trans (hb.mono HB.out.size)); have n2_ := Aside0.mk ((hb.block _ (blk_lt HX.out)).trans HX.out); clear HB HX; have HB := n1_; have HX := n2_; clear n1_ n2_ hb; have k0 : w2.cell? ⟨w.heap.size, 0, none⟩ = some (.int .i64 pw) := (blk_cell HX.out 0).trans rfl; have k1 : w2.cell? ⟨w.heap.size, 1, none⟩ = some (.int .i64 pj) := (blk_cell HX.out 1).trans rfl; have k2 : w2.cell? ⟨w.heap.size, 2, none⟩ = some (.int .i64 pr) := (blk_cell HX.out 2).trans rfl) | (go_at_call 46; (with_reducible refine (rwithin_true pr 1 8 _ H3.out).mono ?_); rintro e w2 ⟨rfl, hb⟩; have n1_ := Aside0.mk (HB.out.trans (hb.mono HB.out.size)); have n2_ := Aside0.mk ((hb.block _ (blk_lt HX.out)).trans HX.out); clear HB HX; have HB := n1_; have HX := n2_; clear n1_ n2_ hb; have k0 : w2.cell? ⟨w.heap.size, 0, none⟩ = some (.int .i64 pw) := (blk_cell HX.out 0).trans rfl; have k1 : w2.cell? ⟨w.heap.size, 1, none⟩ = some (.int .i64 pj) := (blk_cell HX.out 1).trans rfl; have k2 : w2.cell? ⟨w.heap.size, 2, none⟩ = some (.int .i64 pr) := (blk_cell HX.out 2).trans rfl))
  go_loopw [6] (fun t wr => ∃ k : Nat, t = .int .i64 k ∧ k ≤ xs.length ∧ Below w.heap.size w wr ∧ wr.heap[w.heap.size]? = some (.cells #[.int .i64 pw, .int .i64 pj, .int .i64 pr] 23 (0, 0))) (fun t _ => xs.length - (intOf t).toNat)
  case atStart => exact ⟨0, rfl, Nat.zero_le _, HB.out, HX.out⟩
  case round =>
    obtain ⟨k, rfl, hk, hb, hx⟩ := hrel
    clear HB HX
    have HB := Aside0.mk hb
    have HX := Aside0.mk hx
    clear hb hx
    by_cases hlt : k < xs.length
    · have HJ := Aside0.mk (HOKJ.out k hlt)
      have q0 : decide ((k : Int) < (xs.length : Int)) = true := decide_eq_true (by omega)
      have q1 := eq_true (show (k : Int) < (xs.length : Int) by omega)
      obtain ⟨ad, ead, hy⟩ := Kd.at_int HC.out k (Int.natCast_nonneg _) (by omega)
      subst ead
      rw [Int.toNat_natCast] at hy
      replace hy := pw_cell_below HB.out hy
      go_wp2_with (first | (go_at_call 46; (with_reducible refine (rwithin_true (rd xs k) 0 1000 _ HJ.out).mono ?_); rintro e w2 ⟨rfl, hb⟩; have n1_ := Aside0.mk (HB.out.trans (hb.mono HB.out.size)); have n2_ := Aside0.mk ((hb.block _ (blk_lt HX.out)).trans HX.out); clear HB HX; have HB := n1_; have HX := n2_; clear n1_ n2_ hb; have k0 : w2.cell? ⟨w.heap.size, 0, none⟩ = some (.int .i64 pw) := (blk_cell HX.out 0).trans rfl; have k1 : w2.cell? ⟨w.heap.size, 1, none⟩ = some (.int .i64 pj) := (blk_cell HX.out 1).trans rfl; have k2 : w2.cell? ⟨w.heap.size, 2, none⟩ = some (.int .i64 pr) := (blk_cell HX.out 2).trans rfl))
      go_roundw
      case rel => exact ⟨k + 1, by go_num, by omega, HB.out, HX.out⟩
      case measure => simp [intOf]; omega
    · have q0 : decide ((k : Int) < (xs.length : Int)) = false := decide_eq_false (by omega)
      go_wp2
      go_ret2
      exact ⟨rfl, HB.out⟩
end Go.Proofs.Ythcchpbidbbiaaa.Sc
namespace Go.Proofs.Ythcchpbidbbiaaa.Sc
open Go.RowKit Go.Proofs.YthcchpbidbbiaaaW.PrintWords Go.Proofs.YthcchpbidbbiaaaW.PrintLast Go.Proofs.YthcchpbidbbiaaaW.PrintMore Go.Proofs.Ythcchpbidbbiaaa.PSchedSide
set_option linter.unusedVariables false
set_option linter.unusedSimpArgs false
set_option maxHeartbeats 8000000 in
set_option maxRecDepth 1000000 in
theorem tells_bad (pw pj pr : Int) (A : Option Addr) (n c : Nat) (e1 n1 : Int) (w : World) (he : e1 ≠ 0) (hN : ∀ W : World, Below w.heap.size w W → Calls Try.prog 15 #[poolV pw pj pr, .slice A n c] W fun e w' => e = .returned (.tuple #[.pointer none, .int .i64 e1, .int .i64 n1]) ∧ Below W.heap.size W w')
    (hM : ∀ W : World, Below w.heap.size w W → Calls Try.prog 14 #[poolV pw pj pr, .slice A n c] W fun e w' => e = .returned (.tuple #[.int .i64 e1, .int .i64 n1]) ∧ Below W.heap.size W w') :
    Calls Try.prog 3 #[poolV pw pj pr, .slice A n c] w fun e w' => e = .returned (.bool true) ∧ Below w.heap.size w w' := by
  have HW := Aside0.mk (fun (W : World) (hb : Below w.heap.size w W) => wide_bad pw pj pr A n c e1 n1 W he (fun W2 h2 => hN W2 (hb.trans (h2.mono hb.size))))
  have HN := Aside0.mk hN
  have HM := Aside0.mk hM
  have HB := Aside0.mk (below_alloc (Below.refl w.heap.size w) (.cells #[.int .i64 pw, .int .i64 pj, .int .i64 pr] 23))
  have HX := Aside0.mk (heap_alloc_new w (.cells #[.int .i64 pw, .int .i64 pj, .int .i64 pr] 23))
  have b0 : (e1 == 0) = false := beq_eq_false_iff_ne.mpr he
  have b1 : (e1 != 0) = true := by simp [he]
  unfold poolV at HW HN HM ⊢
  clear hN hM he
  go_enter Try.func3, Try.ntmps3
  go_wp2_with (first
    | (go_at_call 12; (with_reducible refine (awake_calls _).mono ?_); rintro e w2 ⟨rfl, hb⟩; have n1_ := Aside0.mk (HB.out.trans (hb.mono HB.out.size)); have n2_ := Aside0.mk ((hb.block _ (blk_lt HX.out)).trans HX.out); clear HB HX; have HB := n1_; have HX := n2_; clear n1_ n2_ hb; have k0 : w2.cell? ⟨w.heap.size, 0, none⟩ = some (.int .i64 pw) := (blk_cell HX.out 0).trans rfl; have k1 : w2.cell? ⟨w.heap.size, 1, none⟩ = some (.int .i64 pj) := (blk_cell HX.out 1).trans rfl; have k2 : w2.cell? ⟨w.heap.size, 2, none⟩ = some (.int .i64 pr) := (blk_cell HX.out 2).trans rfl)
    | (go_at_call 13; (with_reducible refine (HW.out _ HB.out).mono ?_); rintro e w2 ⟨rfl, hb⟩; have n1_ := Aside0.mk (HB.out.trans (hb.mono HB.out.size)); have n2_ := Aside0.mk ((hb.block _ (blk_lt HX.out)).trans HX.out); clear HB HX; have HB := n1_; have HX := n2_; clear n1_ n2_ hb; have k0 : w2.cell? ⟨w.heap.size, 0, none⟩ = some (.int .i64 pw) := (blk_cell HX.out 0).trans rfl; have k1 : w2.cell? ⟨w.heap.size, 1, none⟩ = some (.int .i64 pj) := (blk_cell HX.out 1).trans rfl; have k2 : w2.cell? ⟨w.heap.size, 2, none⟩ = some (.int .i64 pr) := (blk_cell HX.out 2).trans rfl)
    | (go_at_call 14; (with_reducible refine (HM.out _ HB.out).mono ?_); rintro e w2 ⟨rfl, hb⟩; have n1_ := Aside0.mk (HB.out.trans (hb.mono HB.out.size)); have n2_ := Aside0.mk ((hb.block _ (blk_lt HX.out)).trans HX.out); clear HB HX; have HB := n1_; have HX := n2_; clear n1_ n2_ hb; have k0 : w2.cell? ⟨w.heap.size, 0, none⟩ = some (.int .i64 pw) := (blk_cell HX.out 0).trans rfl; have k1 : w2.cell? ⟨w.heap.size, 1, none⟩ = some (.int .i64 pj) := (blk_cell HX.out 1).trans rfl; have k2 : w2.cell? ⟨w.heap.size, 2, none⟩ = some (.int .i64 pr) := (blk_cell HX.out 2).trans rfl)
    | (go_at_call 15; (with_reducible refine (HN.out _ HB.out).mono ?_); rintro e w2 ⟨rfl, hb⟩; have n1_ := Aside0.mk (HB.out.trans (hb.mono HB.out.size)); clear HB HX; have HB := n1_; clear n1_ hb))
  go_ret
  exact ⟨rfl, HB.out⟩
set_option maxHeartbeats 8000000 in
set_option maxRecDepth 1000000 in
theorem tells_ok (pw pj pr : Int) (A : Option Addr) (c : Nat) (xs : List Int) (w : World) (hp : PoolOk pw pj pr) (hC : Kd.C (Kd.int .i64) w A xs.length xs) (hn : xs.length ≤ 1000) (ha : ∀ j : Nat, j < xs.length → JobOk (rd xs j)) :
    Calls Try.prog 3 #[poolV pw pj pr, .slice A xs.length c] w fun e w' => e = .returned (.bool true) ∧ Below w.heap.size w w' := by
  have HW := Aside0.mk (fun (W : World) (hb : Below w.heap.size w W) => wide_ok pw pj pr A c xs W hp (Kd.C_below hC hb) hn ha)
  have HN := Aside0.mk (fun (W : World) (hb : Below w.heap.size w W) => new_ok pw pj pr A c xs W hp (Kd.C_below hC hb) hn ha)
  have HM := Aside0.mk (fun (W : World) (hb : Below w.heap.size w W) => may_ok pw pj pr A c xs W hp (Kd.C_below hC hb) hn ha)
  have HB := Aside0.mk (below_alloc (Below.refl w.heap.size w) (.cells #[.int .i64 pw, .int .i64 pj, .int .i64 pr] 23))
  have HX := Aside0.mk (heap_alloc_new w (.cells #[.int .i64 pw, .int .i64 pj, .int .i64 pr] 23))
  obtain ⟨q, hq⟩ : ∃ q, wideTo (min xs.length pw.toNat) = q := ⟨_, rfl⟩
  simp only [hq] at HW
  unfold poolV at HW HN HM ⊢
  clear hC ha hp hq
  go_enter Try.func3, Try.ntmps3
  go_wp2_with (first
    | (go_at_call 12; (with_reducible refine (awake_calls _).mono ?_); rintro e w2 ⟨rfl, hb⟩; have n1_ := Aside0.mk (HB.out.trans (hb.mono HB.out.size)); have n2_ := Aside0.mk ((hb.block _ (blk_lt HX.out)).trans HX.out); clear HB HX; have HB := n1_; have HX := n2_; clear n1_ n2_ hb; have k0 : w2.cell? ⟨w.heap.size, 0, none⟩ = some (.int .i64 pw) := (blk_cell HX.out 0).trans rfl; have k1 : w2.cell? ⟨w.heap.size, 1, none⟩ = some (.int .i64 pj) := (blk_cell HX.out 1).trans rfl; have k2 : w2.cell? ⟨w.heap.size, 2, none⟩ = some (.int .i64 pr) := (blk_cell HX.out 2).trans rfl)
    | (go_at_call 13; (with_reducible refine (HW.out _ HB.out).mono ?_); rintro e w2 ⟨A2, c2, rfl, ho, hb⟩; have n1_ := Aside0.mk (HB.out.trans (hb.mono HB.out.size)); have n2_ := Aside0.mk ((hb.block _ (blk_lt HX.out)).trans HX.out); clear HB HX; have HB := n1_; have HX := n2_; clear n1_ n2_ hb ho; have k0 : w2.cell? ⟨w.heap.size, 0, none⟩ = some (.int .i64 pw) := (blk_cell HX.out 0).trans rfl; have k1 : w2.cell? ⟨w.heap.size, 1, none⟩ = some (.int .i64 pj) := (blk_cell HX.out 1).trans rfl; have k2 : w2.cell? ⟨w.heap.size, 2, none⟩ = some (.int .i64 pr) := (blk_cell HX.out 2).trans rfl)
    | (go_at_call 14; (with_reducible refine (HM.out _ HB.out).mono ?_); rintro e w2 ⟨rfl, hb⟩; have n1_ := Aside0.mk (HB.out.trans (hb.mono HB.out.size)); have n2_ := Aside0.mk ((hb.block _ (blk_lt HX.out)).trans HX.out); clear HB HX; have HB := n1_; have HX := n2_; clear n1_ n2_ hb; have k0 : w2.cell? ⟨w.heap.size, 0, none⟩ = some (.int .i64 pw) := (blk_cell HX.out 0).trans rfl; have k1 : w2.cell? ⟨w.heap.size, 1, none⟩ = some (.int .i64 pj) := (blk_cell HX.out 1).trans rfl; have k2 : w2.cell? ⟨w.heap.size, 2, none⟩ = some (.int .i64 pr) := (blk_cell HX.out 2).trans rfl)
    | (go_at_call 15; (with_reducible refine (HN.out _ HB.out).mono ?_); rintro e w2 ⟨g, s, rfl, hi, hb, hf⟩; have n1_ := Aside0.mk (HB.out.trans (hb.mono HB.out.size)); clear HB HX; have HB := n1_; clear n1_ hb hi hf))
  go_ret
  exact ⟨rfl, HB.out⟩
/-- Some first number is none of a job's, or all are. -/
theorem first_bad (xs : List Int) : (∀ j : Nat, j < xs.length → JobOk (rd xs j)) ∨ ∃ i, i < xs.length ∧ ¬ JobOk (rd xs i) ∧ ∀ j : Nat, j < i → JobOk (rd xs j) := by
  have key : ∀ k, k ≤ xs.length → (∀ j : Nat, j < k → JobOk (rd xs j)) ∨ ∃ i, i < xs.length ∧ ¬ JobOk (rd xs i) ∧ ∀ j : Nat, j < i → JobOk (rd xs j) := by
    intro k
    induction k with
    | zero => intro _; exact .inl (fun j hj => by omega)
    | succ k ih =>
      intro hk
      rcases ih (by omega) with h | h
      · by_cases hb : JobOk (rd xs k)
        · refine .inl (fun j hj => ?_)
          by_cases e : j = k
          · rw [e]; exact hb
          · exact h j (by omega)
        · exact .inr ⟨k, by omega, hb, h⟩
      · exact .inr h
  exact key xs.length (Nat.le_refl _)
theorem tells_all (pw pj pr : Int) (A : Option Addr) (c : Nat) (xs : List Int) (w : World) (hC : Kd.C (Kd.int .i64) w A xs.length xs) :
    Calls Try.prog 3 #[poolV pw pj pr, .slice A xs.length c] w fun e w' => e = .returned (.bool true) ∧ Below w.heap.size w w' := by
  by_cases hp : PoolOk pw pj pr
  · by_cases hn : 1000 < xs.length
    · exact tells_bad pw pj pr A xs.length c 2 (-1) w (by decide) (fun W hb => new_long pw pj pr A _ c W hp hn) (fun W hb => may_long pw pj pr A _ c W hp hn)
    · rcases first_bad xs with ha | ⟨i, hi, hb, ha⟩
      · exact tells_ok pw pj pr A c xs w hp hC (by omega) ha
      · exact tells_bad pw pj pr A xs.length c 1 i w (by decide) (fun W hb' => new_bad_job pw pj pr A c xs i W hp (Kd.C_below hC hb') (by omega) hi hb ha) (fun W hb' => may_bad_job pw pj pr A c xs i W hp (Kd.C_below hC hb') (by omega) hi hb ha)
  · exact tells_bad pw pj pr A xs.length c 1 (-1) w (by decide) (fun W hb => new_bad_pool pw pj pr A _ c W hp) (fun W hb => may_bad_pool pw pj pr A _ c W hp)
end Go.Proofs.Ythcchpbidbbiaaa.Sc
namespace Go.Proofs.Ythcchpbidbbiaaa.schedWideTells
open Go.ChangeShapes Go.WideShapes Go.ChangeAt Go.RowKit Go.Joins
open Go.Proofs.YthcchpbidbbiaaaW
set_option linter.unusedVariables false
theorem own : ownKnob Try.prog.godebug = none := by kernel_rfl
theorem laidOut : laidOutB Try.prog = true := by kernel_rfl
def IsRow (k : IntKind) (w : World) (a : Option Addr) (len cap : Nat) (zs : List Int) : Prop :=
  (a = none ∧ len = 0 ∧ cap = 0 ∧ zs = []) ∨
  ∃ x, a = some x ∧ len ≤ cap ∧ cap ≤ maxLen ∧ zs.length = cap ∧ (∀ i, i < zs.length → w.cell? (x.add i) = some (.int k (zs.getD i 0))) ∧ ∀ n ∈ zs, (Lit.int k n).wf = true
theorem tells (pw pj pr : Int) (a0 : Option Addr) (len0 cap0 : Nat) (z0 : List Int) (W : World) (w0 : IsRow .i64 W a0 len0 cap0 z0) : Calls Try.prog 3 #[.agg #[.int .i64 pw, .int .i64 pj, .int .i64 pr], .slice a0 len0 cap0] W fun e W' => e = .returned (.bool true) ∧ Below W.heap.size W W' := by
  obtain ⟨l0, rfl, hr0, hm0, hw0, hc0⟩ := PrintWords.ReadsInt.ofRowC w0
  exact Sc.tells_all pw pj pr a0 cap0 l0 W (PrintWords.Kd.C_of_reads (d := (0 : Int)) (h1 := fun _ => rfl) hr0)
set_option maxRecDepth 100000 in
theorem lifted (os : Os) (started : os.Started) (H : Type) (enc : TypeId × Value → H) :
    ReturnsInHanded {} Try.checked os 3 .any (Rows.schedWideTellsSpec.pre6 enc Try.prog Try.f3 Rows.schedWideTellsRow.domain false) (Rows.schedWideTellsSpec.post enc Try.prog Try.f3 false true false false) := by
  refine returnsInHanded_of_change_sized (C := Try.checked) own started (by kernel_rfl) Try.func3
    (ChangeSpec.witness6 (enc := enc) (C := Try.checked) false ⟨#[], #[.agg #[.int .i64 0, .int .i64 0, .int .i64 0], .slice none 0 0], []⟩ 8 (by kernel_rfl) (by kernel_rfl) (by kernel_rfl) (by kernel_rfl)) ?_
  intro W base args ds gs before hval0 hW hcnd hsz0 _
  have hval : ∀ (j : Nat) t v, Try.f3.params[j]? = some t → args[j]? = some v → Value.okWide Try.prog W .any base t v := hval0
  have hW' := hW
  obtain ⟨p, q, hA0, hV, rfl, hfz, hnd⟩ := hW
  have hA : DataW.TrodAll enc Try.prog W 0 (fun _ => true) true Try.f3.params.toList args.toList ds p := hA0
  rw [Try.params3] at hA hval
  obtain ⟨v0, vs0, d0, ds0, p0, q0, hargs, rfl, rfl, h0, r0⟩ := trodAll_cons hA
  obtain ⟨v1, vs1, d1, ds1, p1, q1, rfl, rfl, rfl, h1, r1⟩ := trodAll_cons r0
  obtain ⟨rfl, rfl, rfl⟩ := trodAll_nil r1
  obtain rfl : args = #[v0, v1] := by cases args; simp_all
  obtain ⟨rfl, rfl⟩ := trodVars_none hV
  have k0 := h0
  have lt0 : ∀ x ∈ p0, x.block < W.heap.size := by obtain ⟨m, hm⟩ := k0; exact DataW.trod_lt m _ _ _ hm
  have k1 := h1
  have lt1 : ∀ x ∈ p1, x.block < W.heap.size := by obtain ⟨m, hm⟩ := k1; exact DataW.trod_lt m _ _ _ hm
  obtain ⟨c0, c1, c2, y0, y1, y2, m, rfl, _, _, hy0, hy1, hy2⟩ := open_agg3 Try.underlying23 (by kernel_rfl) (by kernel_rfl) (hval 0 23 v0 rfl rfl) h0
  obtain ⟨x0, e0, _, _⟩ := DataW.trod_int Try.underlying3 hy0
  obtain ⟨x1, e1, _, _⟩ := DataW.trod_int Try.underlying3 hy1
  obtain ⟨x2, e2, _, _⟩ := DataW.trod_int Try.underlying3 hy2
  simp only [List.cons.injEq, and_true] at e0 e1 e2
  subst e0 e1 e2
  obtain ⟨a1, len1, cap1, rfl⟩ := okWide_slice Try.underlying24 (hval 1 24 v1 rfl rfl)
  obtain ⟨z1, w1⟩ : ∃ zs, IsRow .i64 W a1 len1 cap1 zs := by
    obtain ⟨fuel, hf⟩ := h1
    rcases open_ints Try.underlying24 Try.underlying3 (by kernel_rfl) hf with ⟨hcs, _⟩ | ⟨x, l, c, zs, hcs, _, hl, hm, hz, _, hcell, hwz⟩
    · simp [Value.cells] at hcs
      obtain ⟨rfl, rfl, rfl⟩ := hcs
      exact ⟨[], .inl ⟨rfl, rfl, rfl, rfl⟩⟩
    · simp [Value.cells] at hcs
      obtain ⟨rfl, rfl, rfl⟩ := hcs
      exact ⟨zs, .inr ⟨_, rfl, hl, hm, by simpa using hz, hcell, hwz⟩⟩
  clear hA0 hval0 hsz0
  refine (tells x0 x1 x2 a1 len1 cap1 z1 W w1).mono fun e W' ⟨he, bel⟩ => ?_
  subst he
  exact ⟨_, rfl, _, _, _, [], _, [], hW', trodAll_mk1 (shut_bool Try.underlying4 _), (trodAll_cons_mk (Below.trod laidOut (by kernel_rfl) (of_decide_eq_true (by kernel_rfl)) k0 bel lt0) (trodAll_cons_mk (Below.trod laidOut (by kernel_rfl) (of_decide_eq_true (by kernel_rfl)) k1 bel lt1) trodAll_mk0)), rfl, bel.frame _, fun h => by cases h⟩
theorem over : Rows.schedWideTellsRow.holds Try.pinned (OpenSpec.ofChange Rows.schedWideTellsSpec) :=
  OpenClaim.holds_of_wide 3 Try.f3 rfl rfl rfl rfl rfl rfl rfl ⟨rfl, rfl, rfl, rfl, rfl⟩ rfl rfl rfl rfl rfl (by kernel_rfl) Try.func3 (by kernel_rfl)
    (of_decide_eq_true (by kernel_rfl)) (by unfold Func.isWrapper; first | (rw [if_pos (by decide +kernel)]; kernel_rfl) | (rw [if_neg (by decide +kernel)]; exact ⟨rfl, rfl⟩))
    (fun os started H enc _ => lifted os started H enc)
theorem proved : Rows.SchedWideTellsSaid := over
#print axioms proved
end Go.Proofs.Ythcchpbidbbiaaa.schedWideTells
namespace Go.Proofs.Ythcchpbidbbiaaa
/-- The row, under a short name, for the claim. -/
theorem schedWideTells_holds : Rows.SchedWideTellsSaid := schedWideTells.proved
end Go.Proofs.Ythcchpbidbbiaaa
