/- Proved: for every Work x, SchedWide returns true: no condition. -/
import Derived.Test.YthcchpbidbbiaaaSce
import Derived.Test.YthcchpbidbbiaaaScf
import Derived.Test.YthcchpbidbbiaaaScg
import Derived.Test.YthcchpbidbbiaaaRows
import Derived.WalkKit
import Derived.ProofKit
import Derived.OpenShut
import Derived.ShutString
import Derived.ChangeOld
import Derived.Below
import Derived.SizedLaws
import Derived.Lib.SmallJoins
namespace Go.Proofs.Ythcchpbidbbiaaa.Sc
open Go.RowKit Go.Proofs.YthcchpbidbbiaaaW.PrintWords Go.Proofs.YthcchpbidbbiaaaW.PrintLast Go.Proofs.YthcchpbidbbiaaaW.PrintMore Go.Proofs.Ythcchpbidbbiaaa.PSchedSide
attribute [local go_sem] max2_int min2_int max_two min_two
set_option linter.unusedVariables false
set_option linter.unusedSimpArgs false
/-- The moves of Wide, for so many workers. -/
def wideTo : Nat → List S64
  | 0 => []
  | k + 1 => wideTo k ++ [⟨0, 0⟩, ⟨k + 1, 0⟩]
theorem wideTo_length (k : Nat) : (wideTo k).length = 2 * k := by
  induction k with
  | zero => rfl
  | succ k ih => simp only [wideTo, List.length_append, ih, List.length_cons, List.length_nil]; omega
theorem lit2 (w : World) (a b c d : Int) : ReadsRow (k64.K (w.alloc (.cells #[.int .i64 a, .int .i64 b, .int .i64 c, .int .i64 d] 64))) 2 (w.alloc (.cells #[.int .i64 a, .int .i64 b, .int .i64 c, .int .i64 d] 64)) (some ⟨w.heap.size, 0, none⟩) 2 [⟨a, b⟩, ⟨c, d⟩] := by
  have h1 : (w.alloc (.cells #[.int .i64 a, .int .i64 b, .int .i64 c, .int .i64 d] 64)).ownsRow 0 64 2 (.slice (some ⟨w.heap.size, 0, none⟩) 2 2) 2 [.int .i64 a, .int .i64 b, .int .i64 c, .int .i64 d] := by
    have h2 := World.ownsRow_lit (base := 0) (e := 64) (size := 2) w #[.int .i64 a, .int .i64 b, .int .i64 c, .int .i64 d] 2 (Nat.zero_le _) (by simp [maxLen]) (by simp)
    simpa using h2
  have h3 : Kd.R k64 64 (w.alloc (.cells #[.int .i64 a, .int .i64 b, .int .i64 c, .int .i64 d] 64)) 0 (fun _ => True) (.slice (some ⟨w.heap.size, 0, none⟩) 2 2) [⟨a, b⟩, ⟨c, d⟩] :=
    ⟨fun _ _ => trivial, _, h1, Reps.c2 (k64_mkM _ _ _ (⟨a, b⟩ : S64)) (Reps.c2 (k64_mkM _ _ _ (⟨c, d⟩ : S64)) (Reps.none _ _))⟩
  exact (Kd.R_reads' h3).2.2
theorem mM_of_K64 {w w1 : World} {base : Nat} {ok : Nat → Prop} {x : S64} {cs : List Value} (h : k64.K w x cs) : k64.M w1 base ok x cs := by
  obtain rfl := k64_open h
  exact k64_mkM w1 base ok x
set_option maxHeartbeats 8000000 in
set_option maxRecDepth 1000000 in
theorem wide_bad (pw pj pr : Int) (A : Option Addr) (n c : Nat) (e1 n1 : Int) (w : World) (he : e1 ≠ 0) (hN : ∀ W : World, Below w.heap.size w W → Calls Try.prog 15 #[poolV pw pj pr, .slice A n c] W fun e w' => e = .returned (.tuple #[.pointer none, .int .i64 e1, .int .i64 n1]) ∧ Below W.heap.size W w') :
    Calls Try.prog 13 #[poolV pw pj pr, .slice A n c] w fun e w' => e = .returned (.tuple #[.slice none 0 0, .int .i64 e1, .int .i64 n1]) ∧ Below w.heap.size w w' := by
  have HN := Aside0.mk (hN _ (below_alloc (Below.refl w.heap.size w) (.cells #[.int .i64 pw, .int .i64 pj, .int .i64 pr] 23)))
  have HB := Aside0.mk (below_alloc (Below.refl w.heap.size w) (.cells #[.int .i64 pw, .int .i64 pj, .int .i64 pr] 23))
  unfold poolV at HN ⊢
  have b0 : (e1 != 0) = true := by simp [he]
  clear he hN
  go_enter Try.func13, Try.ntmps13
  go_wp2_with (first | (go_at_call 15; (with_reducible refine HN.out.mono ?_); rintro e w2 ⟨rfl, hb⟩; have HB2 := Aside0.mk (HB.out.trans (hb.mono HB.out.size)); clear hb))
  go_ret3
  exact ⟨rfl, HB2.out⟩
set_option maxHeartbeats 8000000 in
set_option maxRecDepth 1000000 in
theorem wide_ok (pw pj pr : Int) (A : Option Addr) (c : Nat) (xs : List Int) (w : World) (hp : PoolOk pw pj pr) (hC : Kd.C (Kd.int .i64) w A xs.length xs) (hn : xs.length ≤ 1000) (ha : ∀ j : Nat, j < xs.length → JobOk (rd xs j)) :
    Calls Try.prog 13 #[poolV pw pj pr, .slice A xs.length c] w fun e w' => ∃ A2 c2, e = .returned (.tuple #[.slice A2 (wideTo (min xs.length pw.toNat)).length c2, .int .i64 0, .int .i64 0]) ∧ Kd.R k64 64 w' w.heap.size (fun _ => True) (.slice A2 (wideTo (min xs.length pw.toNat)).length c2) (wideTo (min xs.length pw.toNat)) ∧ Below w.heap.size w w' := by
  have HN := Aside0.mk (new_ok pw pj pr A c xs _ hp (Kd.C_below hC (below_alloc (Below.refl w.heap.size w) (.cells #[.int .i64 pw, .int .i64 pj, .int .i64 pr] 23))) hn ha)
  have HB := Aside0.mk (below_alloc (Below.refl w.heap.size w) (.cells #[.int .i64 pw, .int .i64 pj, .int .i64 pr] 23))
  have HX := Aside0.mk (heap_alloc_new w (.cells #[.int .i64 pw, .int .i64 pj, .int .i64 pr] 23))
  unfold poolV at HN ⊢
  obtain ⟨⟨hp0, hp1⟩, _⟩ := hp
  by_cases hle : (xs.length : Int) ≤ pw
  · have hq : min xs.length pw.toNat = xs.length := by omega
    rw [hq]
    have hmin : min (xs.length : Int) pw = (xs.length : Int) := by omega
    have hq8 : xs.length ≤ 8 := by omega
    clear hC ha hq
    go_enter Try.func13, Try.ntmps13
    go_wp2_with (first | (go_at_call 15; (with_reducible refine HN.out.mono ?_); rintro e w2 ⟨g, s, rfl, hi, hb, hf⟩; have HB2 := Aside0.mk (HB.out.trans (hb.mono HB.out.size)); have HX2 := Aside0.mk ((hb.block _ (blk_lt HX.out)).trans HX.out); have z0 : w2.cell? ⟨w.heap.size, 0, none⟩ = some (.int .i64 pw) := (blk_cell HX2.out 0).trans rfl; clear hi hb hf))
    go_loopw [10, 28] (fun v i wr => ∃ k : Nat, i = .int .i64 k ∧ k ≤ xs.length ∧ Kd.R k64 64 wr w.heap.size (fun _ => True) v (wideTo k) ∧ Below w.heap.size w wr) (fun _ i _ => xs.length - (intOf i).toNat)
    case atStart => exact ⟨0, rfl, Nat.zero_le _, Kd.R_nil _ _ _ _ _, HB2.out⟩
    case round =>
      obtain ⟨k, rfl, hk, ho, hb⟩ := hrel
      have HO := Aside0.mk ho
      have HB3 := Aside0.mk hb
      clear ho hb
      by_cases hlt : k < xs.length
      · have p0 : decide ((k : Int) < (xs.length : Int)) = true := decide_eq_true (by omega)
        have HLN := Aside0.mk (show (wideTo k).length ≤ 16 from by rw [wideTo_length]; omega)
        have HL2 := Aside0.mk (lit2 wr 0 0 (k + 1) 0)
        have HB4 := Aside0.mk (below_alloc HB3.out (.cells #[.int .i64 0, .int .i64 0, .int .i64 (k + 1), .int .i64 0] 64))
        have HO4 := Aside0.mk (Kd.R_alloc HO.out (.cells #[.int .i64 0, .int .i64 0, .int .i64 (k + 1), .int .i64 0] 64))
        go_wp2_with (first | ((with_reducible refine gate_builtin (b := .append) (xs := #[.tmp 31, .tmp 36]) rfl ?_); at_builtin; refine Kd.R_append_rows k64 (w0 := w) w.heap.size rfl (.tmp 31) (.tmp 36) 26 64 (.agg #[.int .i64 0, .int .i64 0]) 16 rfl Try.underlying26 info64 rfl (by decide) (by omega) _ (wideTo k) [⟨0, 0⟩, ⟨k + 1, 0⟩] (some ⟨wr.heap.size, 0, none⟩) 2 2 (fun _ => True) (fun _ => False) rfl rfl HO4.out HL2.out ?aM (fun _ h => h.elim) (fun _ _ => trivial) HB4.out ?aS ?aL ?_; (case aM => intro x cs h; exact mM_of_K64 h); (case aS => exact HB4.out.size); (case aL => have := HLN.out; omega); intro v1 w3 ho hb hg hat; have HO1 := Aside0.mk ho; have HB5 := Aside0.mk hb; clear ho hb hg hat))
        go_roundw
        case rel => exact ⟨k + 1, by go_num, by omega, HO1.out, HB5.out⟩
        case measure => simp [intOf]; omega
      · have p0 : decide ((k : Int) < (xs.length : Int)) = false := decide_eq_false (by omega)
        have hkn : k = xs.length := by omega
        obtain ⟨A2, c2, hv⟩ := Kd.R_slice HO.out
        subst hv
        subst hkn
        go_wp2
        go_ret3
        exact ⟨A2, c2, rfl, HO.out, HB3.out⟩
  · obtain ⟨q, rfl⟩ : ∃ q : Nat, pw = q := ⟨pw.toNat, by omega⟩
    have hq : min xs.length (q : Int).toNat = q := by omega
    rw [hq]
    have hmin : min (xs.length : Int) (q : Int) = (q : Int) := by omega
    have hq8 : q ≤ 8 := by omega
    clear hC ha hq
    go_enter Try.func13, Try.ntmps13
    go_wp2_with (first | (go_at_call 15; (with_reducible refine HN.out.mono ?_); rintro e w2 ⟨g, s, rfl, hi, hb, hf⟩; have HB2 := Aside0.mk (HB.out.trans (hb.mono HB.out.size)); have HX2 := Aside0.mk ((hb.block _ (blk_lt HX.out)).trans HX.out); have z0 : w2.cell? ⟨w.heap.size, 0, none⟩ = some (.int .i64 (q : Int)) := (blk_cell HX2.out 0).trans rfl; clear hi hb hf))
    go_loopw [10, 28] (fun v i wr => ∃ k : Nat, i = .int .i64 k ∧ k ≤ q ∧ Kd.R k64 64 wr w.heap.size (fun _ => True) v (wideTo k) ∧ Below w.heap.size w wr) (fun _ i _ => q - (intOf i).toNat)
    case atStart => exact ⟨0, rfl, Nat.zero_le _, Kd.R_nil _ _ _ _ _, HB2.out⟩
    case round =>
      obtain ⟨k, rfl, hk, ho, hb⟩ := hrel
      have HO := Aside0.mk ho
      have HB3 := Aside0.mk hb
      clear ho hb
      by_cases hlt : k < q
      · have p0 : decide ((k : Int) < (q : Int)) = true := decide_eq_true (by omega)
        have HLN := Aside0.mk (show (wideTo k).length ≤ 16 from by rw [wideTo_length]; omega)
        have HL2 := Aside0.mk (lit2 wr 0 0 (k + 1) 0)
        have HB4 := Aside0.mk (below_alloc HB3.out (.cells #[.int .i64 0, .int .i64 0, .int .i64 (k + 1), .int .i64 0] 64))
        have HO4 := Aside0.mk (Kd.R_alloc HO.out (.cells #[.int .i64 0, .int .i64 0, .int .i64 (k + 1), .int .i64 0] 64))
        go_wp2_with (first | ((with_reducible refine gate_builtin (b := .append) (xs := #[.tmp 31, .tmp 36]) rfl ?_); at_builtin; refine Kd.R_append_rows k64 (w0 := w) w.heap.size rfl (.tmp 31) (.tmp 36) 26 64 (.agg #[.int .i64 0, .int .i64 0]) 16 rfl Try.underlying26 info64 rfl (by decide) (by omega) _ (wideTo k) [⟨0, 0⟩, ⟨k + 1, 0⟩] (some ⟨wr.heap.size, 0, none⟩) 2 2 (fun _ => True) (fun _ => False) rfl rfl HO4.out HL2.out ?aM (fun _ h => h.elim) (fun _ _ => trivial) HB4.out ?aS ?aL ?_; (case aM => intro x cs h; exact mM_of_K64 h); (case aS => exact HB4.out.size); (case aL => have := HLN.out; omega); intro v1 w3 ho hb hg hat; have HO1 := Aside0.mk ho; have HB5 := Aside0.mk hb; clear ho hb hg hat))
        go_roundw
        case rel => exact ⟨k + 1, by go_num, by omega, HO1.out, HB5.out⟩
        case measure => simp [intOf]; omega
      · have p0 : decide ((k : Int) < (q : Int)) = false := decide_eq_false (by omega)
        have hkn : k = q := by omega
        obtain ⟨A2, c2, hv⟩ := Kd.R_slice HO.out
        subst hv
        subst hkn
        go_wp2
        go_ret3
        exact ⟨A2, c2, rfl, HO.out, HB3.out⟩
end Go.Proofs.Ythcchpbidbbiaaa.Sc
namespace Go.Proofs.Ythcchpbidbbiaaa.Sc
open Go.RowKit Go.Proofs.YthcchpbidbbiaaaW.PrintWords Go.Proofs.YthcchpbidbbiaaaW.PrintLast Go.Proofs.YthcchpbidbbiaaaW.PrintMore Go.Proofs.Ythcchpbidbbiaaa.PSchedSide
set_option linter.unusedVariables false
set_option linter.unusedSimpArgs false
theorem wideTo_at (q : Nat) : ∀ i, i < 2 * q → (wideTo q)[i]? = some (if i % 2 = 0 then ⟨0, 0⟩ else ⟨(i / 2 : Nat) + 1, 0⟩) := by
  induction q with
  | zero => intro i h; omega
  | succ q ih =>
    intro i h
    rw [wideTo]
    by_cases hi : i < 2 * q
    · rw [List.getElem?_append_left (by rw [wideTo_length]; exact hi)]
      exact ih i hi
    · rw [List.getElem?_append_right (by rw [wideTo_length]; omega), wideTo_length]
      have e : i = 2 * q ∨ i = 2 * q + 1 := by omega
      rcases e with rfl | rfl
      · rw [if_pos (by omega), Nat.sub_self]; rfl
      · rw [if_neg (by omega)]
        have e1 : 2 * q + 1 - 2 * q = 1 := by omega
        have e2 : (2 * q + 1) / 2 = q := by omega
        rw [e1, e2]; rfl
/-- After i of Wide's moves. -/
structure Wd (q : Nat) (m : Mach) (i : Nat) : Prop where
  next : m.next = ((i + 1) / 2 : Nat)
  sent : m.sent.length = i % 2
  disp : m.disp = true
  peak : m.peak = (i / 2 : Nat)
  work : working m.workers = (i / 2 : Nat)
  idle : ∀ p : Nat, i / 2 < p → p ≤ m.workers.length → wk m p = ⟨1, 0, 0⟩
  stp : m.stopped = false
  drp : m.dropped = false
  picks : m.picks = i
  jq : q ≤ m.jobs.length
  wq : q ≤ m.workers.length
theorem wd_send {q : Nat} {m : Mach} {j : Nat} (hI : Inv m) (h : Wd q m (2 * j)) (hj : j < q) : (⟨0, 0⟩ : S64) ∈ mvs m ∧ Wd q (step m ⟨0, 0⟩) (2 * j + 1) := by
  have hO := hI.ok
  have hn := h.next
  have hjq := h.jq
  have hu : und m ≠ 0 := by
    rw [und_eq h.drp]
    omega
  have hse := h.sent
  have hpj := hO.pj
  have hx : (⟨0, 0⟩ : S64) ∈ mvs m := by
    apply mem_disp
    unfold readyD
    rw [h.disp, if_neg hu]
    simp
    omega
  refine ⟨hx, ?_⟩
  have hk := kind_of_mem hO hx
  generalize step m ⟨0, 0⟩ = m' at hk ⊢
  generalize evOf m ⟨0, 0⟩ = e at hk
  cases hk with
  | close h0 h1 hd hu' => exact absurd hu' hu
  | drop h0 h1 hs hd hu' => simp at h1
  | send h0 h1 hd hu' hl =>
    exact ⟨by simp only []; omega, by simp only [List.length_append, List.length_cons, List.length_nil]; omega, h.disp, by simp only []; have := h.peak; omega, by simp only []; have := h.work; omega, fun p hp hp' => h.idle p (by omega) hp', h.stp, h.drp, by simp only []; have := h.picks; omega, h.jq, h.wq⟩
  | cancel h0 h1 hs hc => simp at h1
  | full h0 h1 hc hg => simp only [] at h0; omega
  | got q' rest h0 h1 hc hg hv => simp only [] at h0; omega
  | quit a b y hw h0 h1 hs hk => simp at h1
  | step a b k1 k2 hw h0 h1 hk => simp only [] at h0; omega
  | gave a b k1 hw h0 h1 hl => simp only [] at h0; omega
  | left a b hw h0 h1 hs hd => simp only [] at h0; omega
  | took a b q' rest hw h0 h1 hq => simp only [] at h0; omega
theorem wk_mid {ws a b : List S99} {y : S99} (h : ws = a ++ y :: b) : rd_T99 ws ((a.length : Int) + 1 - 1) = y := by
  have e : ((a.length : Int) + 1 - 1).toNat = a.length := by omega
  unfold rd_T99
  rw [e, h, List.getD_eq_getElem?_getD, List.getElem?_append_right (Nat.le_refl _), Nat.sub_self]
  rfl
theorem mid_far {a b : List S99} {x y : S99} {i : Nat} (h : a.length < i) : (a ++ x :: b)[i]? = (a ++ y :: b)[i]? := by
  rw [List.getElem?_append_right (by omega), List.getElem?_append_right (by omega)]
  obtain ⟨d, hd⟩ : ∃ d, i - a.length = d + 1 := ⟨i - a.length - 1, by omega⟩
  rw [hd]
  rfl
theorem wd_take {q : Nat} {m : Mach} {j : Nat} (hI : Inv m) (h : Wd q m (2 * j + 1)) (hj : j < q) : (⟨(j : Int) + 1, 0⟩ : S64) ∈ mvs m ∧ Wd q (step m ⟨(j : Int) + 1, 0⟩) (2 * (j + 1)) := by
  have hO := hI.ok
  have hse := h.sent
  have hwq := h.wq
  have hne : m.sent ≠ [] := by
    intro e
    rw [e] at hse
    simp at hse
  have hid := h.idle (j + 1) (by omega) (by omega)
  have hid' : wk m ((j : Int) + 1) = ⟨1, 0, 0⟩ := hid
  have hx : (⟨(j : Int) + 1, 0⟩ : S64) ∈ mvs m := by
    apply mem_work (by omega) (by omega)
    unfold readyW
    rw [hid']
    simp [hne]
  refine ⟨hx, ?_⟩
  have hk := kind_of_mem hO hx
  generalize step m ⟨(j : Int) + 1, 0⟩ = m' at hk ⊢
  generalize evOf m ⟨(j : Int) + 1, 0⟩ = e at hk
  have hat : ∀ {a b : List S99} {y : S59}, m.workers = a ++ ⟨y⟩ :: b → (j : Int) + 1 = a.length + 1 → y = ⟨1, 0, 0⟩ := by
    intro a b y hw h0
    have h1 := wk_mid hw
    unfold wk at hid'
    rw [h0, h1] at hid'
    exact hid'
  cases hk with
  | close h0 h1 hd hu' => simp only [] at h0; omega
  | drop h0 h1 hs hd hu' => simp at h1
  | send h0 h1 hd hu' hl => simp only [] at h0; omega
  | cancel h0 h1 hs hc => simp at h1
  | full h0 h1 hc hg => simp only [] at h0; omega
  | got q' rest h0 h1 hc hg hv => simp only [] at h0; omega
  | quit a b y hw h0 h1 hs hk => simp at h1
  | step a b k1 k2 hw h0 h1 hk => have := hat hw h0; simp at this
  | gave a b k1 hw h0 h1 hl => have := hat hw h0; simp at this
  | left a b hw h0 h1 hs hd => exact absurd hs hne
  | took a b q' rest hw h0 h1 hq =>
    have hj : a.length = j := by simp only [] at h0; omega
    have hlen : (a ++ (⟨⟨2, q', rd m.jobs q'⟩⟩ : S99) :: b).length = m.workers.length := by rw [hw]; simp
    have hwk : working (a ++ (⟨⟨2, q', rd m.jobs q'⟩⟩ : S99) :: b) = j + 1 := by
      have h2 := h.work
      rw [hw, working_mid] at h2
      rw [working_mid]
      simp at h2 ⊢
      omega
    have hn := h.next
    have hp := h.peak
    have hpi := h.picks
    refine ⟨?_, ?_, h.disp, ?_, ?_, fun p hp hp' => ?_, h.stp, h.drp, ?_, h.jq, ?_⟩
    · simp only []; omega
    · simp only []
      rw [hq, List.length_cons] at hse
      omega
    · simp only []
      rw [hwk]
      omega
    · simp only []
      rw [hwk]
      omega
    · simp only [] at hp'
      rw [hlen] at hp'
      have h3 := h.idle p (by omega) hp'
      rw [← h3]
      unfold wk rd_T99
      simp only []
      have e : ((p : Int) - 1).toNat = p - 1 := by omega
      rw [e, hw, List.getD_eq_getElem?_getD, List.getD_eq_getElem?_getD, mid_far (y := ⟨⟨1, 0, 0⟩⟩) (by omega)]
    · simp only []; omega
    · simp only []
      rw [hlen]
      exact hwq
theorem wd_step {q : Nat} {m : Mach} {k : Nat} (hI : Inv m) (h : Wd q m k) (hk : k < 2 * q) : rd_T64 (wideTo q) k ∈ mvs m ∧ Wd q (step m (rd_T64 (wideTo q) k)) (k + 1) := by
  have e : rd_T64 (wideTo q) k = if k % 2 = 0 then ⟨0, 0⟩ else ⟨(k / 2 : Nat) + 1, 0⟩ := by
    unfold rd_T64
    rw [Int.toNat_natCast, List.getD_eq_getElem?_getD, wideTo_at q k hk]
    rfl
  rw [e]
  by_cases hp : k % 2 = 0
  · obtain ⟨j, rfl⟩ : ∃ j, k = 2 * j := ⟨k / 2, by omega⟩
    rw [if_pos hp]
    exact wd_send hI h (by omega)
  · obtain ⟨j, rfl⟩ : ∃ j, k = 2 * j + 1 := ⟨k / 2, by omega⟩
    rw [if_neg hp]
    have e2 : (2 * j + 1) / 2 = j := by omega
    rw [e2]
    exact wd_take hI h (by omega)
theorem working_take (ws : List S99) {k : Nat} (hk : k < ws.length) : working (ws.take (k + 1)) = working (ws.take k) + (if ws[k].f0.f0 = 2 then 1 else 0) := by
  rw [List.take_succ_eq_append_getElem hk]
  unfold working
  rw [List.filter_append, List.length_append]
  by_cases h : ws[k].f0.f0 = 2 <;> simp [h]
theorem newW_working (k : Nat) : working (newW k) = 0 := by
  induction k with
  | zero => rfl
  | succ k ih =>
    have e : newW (k + 1) = ⟨⟨1, 0, 0⟩⟩ :: newW k := by simp [newW, List.replicate_succ]
    rw [e]
    simpa [working] using ih
theorem wd_new {pw pj pr : Int} {xs : List Int} (hp : PoolOk pw pj pr) : Wd (min xs.length pw.toNat) (newM pw pj pr xs pw.toNat) 0 := by
  have hl : (newW pw.toNat).length = pw.toNat := by simp [newW]
  refine ⟨rfl, rfl, rfl, rfl, newW_working _, fun p hp hp' => ?_, rfl, rfl, rfl, ?_, ?_⟩
  · have hp'' : p ≤ pw.toNat := by
      have : (newM pw pj pr xs pw.toNat).workers = newW pw.toNat := rfl
      rw [this, hl] at hp'
      exact hp'
    have hw : (newM pw pj pr xs pw.toNat).workers = newW pw.toNat := rfl
    have h1 : 0 < p := by omega
    unfold wk rd_T99
    rw [hw]
    have e : ((p : Int) - 1).toNat = p - 1 := by omega
    rw [e, List.getD_eq_getElem?_getD, List.getElem?_eq_getElem (by rw [hl]; omega)]
    simp [newW]
  · show min xs.length pw.toNat ≤ xs.length
    omega
  · show min xs.length pw.toNat ≤ (newW pw.toNat).length
    rw [hl]; omega
theorem kind_peak {m m' : Mach} {x : S64} {e : Evt} (hk : Kind m x e m') : m.peak ≤ m'.peak := by
  cases hk with
  | took a b q rest hw h0 h1 hq => exact Int.le_max_left _ _
  | _ => exact Int.le_refl _
end Go.Proofs.Ythcchpbidbbiaaa.Sc
namespace Go.Proofs.Ythcchpbidbbiaaa.Sc
open Go.RowKit Go.Proofs.YthcchpbidbbiaaaW.PrintWords Go.Proofs.YthcchpbidbbiaaaW.PrintLast Go.Proofs.YthcchpbidbbiaaaW.PrintMore Go.Proofs.Ythcchpbidbbiaaa.PSchedSide
set_option linter.unusedVariables false
set_option linter.unusedSimpArgs false
attribute [local go_sem] max2_int min2_int max_two min_two
theorem pick_facts {m : Mach} (hI : Inv m) (hx : mvs m ≠ []) (r : Int) : (step m (picked m r)).picks = m.picks + 1 ∧ m.peak ≤ (step m (picked m r)).peak ∧ Inv (step m (picked m r)) ∧ (step m (picked m r)).jobs = m.jobs ∧ (step m (picked m r)).pw = m.pw := by
  have hk := kind_of_mem hI.ok (picked_mem r hx)
  have h := kind_bound hk
  exact ⟨h.2.2.2.1, kind_peak hk, inv_kind hI hk, h.2.1, h.2.2.2.2.1⟩
theorem picks_le {m : Mach} (hI : Inv m) : m.picks ≤ boundOf m := by
  have h1 := rem_nonneg hI.ok
  have h2 := hI.pot
  omega
set_option maxHeartbeats 32000000 in
set_option maxRecDepth 1000000 in
theorem wide_walk (X : Raw) (w : World) (hX : X.In w) : Calls Try.prog 6 #[.agg #[.int .i64 X.x0, .int .i64 X.x1, .int .i64 X.x2, .slice X.A3 X.l3.length X.c3, .slice X.A4 X.l4.length X.c4, .int .i64 X.x5]] w fun e w' => e = .returned (.bool true) ∧ Below w.heap.size w w' := by
  have HB := Aside0.mk (below_alloc (Below.refl w.heap.size w) (.cells (wcells X) 37))
  have HX := Aside0.mk (heap_alloc_new w (.cells (wcells X) 37))
  have HXW := Aside0.mk hX
  clear hX
  go_enter Try.func6, Try.ntmps6
  go_wp2_with (first | (go_at_call 12; (with_reducible refine (awake_calls _).mono ?_); rintro e w1 ⟨rfl, hb⟩; have HB1 := Aside0.mk (HB.out.trans (hb.mono HB.out.size)); have HX1 := Aside0.mk ((hb.block _ (blk_lt HX.out)).trans HX.out); have HXI := Aside0.mk (HXW.out.below HB1.out); have c0 : w1.cell? ⟨w.heap.size, 0, none⟩ = some (.int .i64 X.x0) := (blk_cell HX1.out 0).trans rfl; have c1 : w1.cell? ⟨w.heap.size, 1, none⟩ = some (.int .i64 X.x1) := (blk_cell HX1.out 1).trans rfl; have c2 : w1.cell? ⟨w.heap.size, 2, none⟩ = some (.int .i64 X.x2) := (blk_cell HX1.out 2).trans rfl; have c3 : w1.cell? ⟨w.heap.size, 3, none⟩ = some (.slice X.A3 X.l3.length X.c3) := (blk_cell HX1.out 3).trans rfl; have c4 : w1.cell? ⟨w.heap.size, 4, none⟩ = some (.slice X.A4 X.l4.length X.c4) := (blk_cell HX1.out 4).trans rfl; have c5 : w1.cell? ⟨w.heap.size, 5, none⟩ = some (.int .i64 X.x5) := (blk_cell HX1.out 5).trans rfl; clear hb) | (go_at_call 16; (with_reducible refine (l_plain X HXI.out).mono ?_); rintro e w2 ⟨pw, pj, pr, A, c, xs, rfl, hp, hl, hj, hr, hb⟩; have HP := Aside0.mk hp; have HLN := Aside0.mk hl; have HJS := Aside0.mk hj; have HB2 := Aside0.mk (below_alloc (HB1.out.trans (hb.mono HB1.out.size)) (.cells #[.int .i64 pw, .int .i64 pj, .int .i64 pr] 23)); have HX2 := Aside0.mk (blk_alloc ((hb.block _ (blk_lt HX1.out)).trans HX1.out) (.cells #[.int .i64 pw, .int .i64 pj, .int .i64 pr] 23)); have HQ2 := Aside0.mk (heap_alloc_new w2 (.cells #[.int .i64 pw, .int .i64 pj, .int .i64 pr] 23)); have HV2 := Aside0.mk (Own.of rfl (Kd.R_alloc hr (.cells #[.int .i64 pw, .int .i64 pj, .int .i64 pr] 23))); have HW1 := Aside0.mk (Nat.le_trans HB1.out.size hb.size); have HV0 := Aside0.mk (fun k (hk : some k = (Value.slice A xs.length c).ownBlock) => Nat.le_trans HB1.out.size (Kd.R_base hr k hk.symm)); have HWD := Aside0.mk (wide_ok pw pj pr A c xs _ hp (Kd.R_reads' HV2.out).2.2 (by omega) (fun j hj' => by rw [rd_take hj']; have := HJS.out _ (List.getElem_mem hj'); exact ⟨by omega, by omega⟩)); unfold poolV at HWD; clear c0 c1 c2 c3 c4 c5; clear hp hl hj hr hb) | (go_at_call 13; (with_reducible refine (HWD.out).mono ?_); rintro e w3 ⟨A2, c2, rfl, ho, hb⟩; obtain ⟨q, hq⟩ : ∃ q, (min xs.length pw.toNat) = q := ⟨_, rfl⟩; rw [hq] at ho; obtain ⟨nn, hnn⟩ : ∃ nn, (wideTo q).length = nn := ⟨_, rfl⟩; rw [hnn] at ho; rw [hq, hnn]; have HQQ := Aside0.mk hq; have HNN := Aside0.mk ((hnn.symm.trans (wideTo_length q))); have HB3 := Aside0.mk (HB2.out.trans (hb.mono HB2.out.size)); have HX3 := Aside0.mk ((hb.block _ (blk_lt HX2.out)).trans HX2.out); have HQ3 := Aside0.mk ((hb.block _ (blk_lt HQ2.out)).trans HQ2.out); have HV3 := Aside0.mk (HV2.out.below hb); have HO := Aside0.mk (Own.of rfl ho); have HOB := Aside0.mk (fun k (hk : some k = (Value.slice A2 nn c2).ownBlock) => Nat.le_trans HB2.out.size (Kd.R_base ho k hk.symm)); have d0 : w3.cell? ⟨w2.heap.size, 0, none⟩ = some (.int .i64 pw) := (blk_cell HQ3.out 0).trans rfl; have d1 : w3.cell? ⟨w2.heap.size, 1, none⟩ = some (.int .i64 pj) := (blk_cell HQ3.out 1).trans rfl; have d2 : w3.cell? ⟨w2.heap.size, 2, none⟩ = some (.int .i64 pr) := (blk_cell HQ3.out 2).trans rfl; have tq1 : (if pw < (xs.length : Int) then pw else (xs.length : Int)) = (q : Int) := (by have h1 := HP.out.1; have h2 := HQQ.out; split <;> omega); have tq8 : q ≤ 8 := (by have h1 := HP.out.1; have h2 := HQQ.out; omega); have tn : decide (2 * (q : Int) < (nn : Int)) = false := decide_eq_false (by have := HNN.out; omega); have tn2 := eq_false (show ¬ 2 * (q : Int) < (nn : Int) by have := HNN.out; omega); clear ho hb hq hnn HWD) | (go_at_call 15; (with_reducible refine (l_newM (b1 := w.heap.size) (b4 := w2.heap.size) X A c (fun k => some k = (Value.slice A2 nn c2).ownBlock) HB3.out (fun k hk => ⟨HOB.out k hk, HO.out.lt k hk⟩) HP.out HLN.out HJS.out HX3.out (Nat.le_refl _) HQ3.out HW1.out HV3.out HV0.out).mono ?_); rintro e w4 ⟨g, rfl, hL, hb⟩; have HL := Aside0.mk hL; have HO4 := Aside0.mk (HO.out.below hb); clear HO; have HO := HO4; clear HO4 d0 d1 d2; have d0 : w4.cell? ⟨w2.heap.size, 0, none⟩ = some (.int .i64 pw) := (blk_cell HL.out.pb 0).trans rfl; have d1 : w4.cell? ⟨w2.heap.size, 1, none⟩ = some (.int .i64 pj) := (blk_cell HL.out.pb 1).trans rfl; have d2 : w4.cell? ⟨w2.heap.size, 2, none⟩ = some (.int .i64 pr) := (blk_cell HL.out.pb 2).trans rfl; clear hL hb HX HX1 HX2 HX3 HQ2 HQ3 HV2 HV3))
  clear d0 d1 d2 tq1 tn tn2 HB HB1 HB2 HB3
  go_loopw [13] (fun i wr => ∃ (k : Nat) (m : Mach), i = .int .i64 k ∧ k ≤ nn ∧ Law w wr (fun k => some k = (Value.slice A2 nn c2).ownBlock) X w.heap.size w2.heap.size pw pj pr (.slice A xs.length c) xs g m ∧ Own k64 64 wr (.slice A2 nn c2) (wideTo q) ∧ Wd q m k) (fun i _ => nn - (intOf i).toNat)
  case atStart => exact ⟨0, _, rfl, Nat.zero_le _, HL.out, HO.out, HQQ.out ▸ wd_new HP.out⟩
  case round =>
    obtain ⟨k, m, rfl, hk, hL, ho, hw⟩ := hrel
    clear HL HO
    have HL := Aside0.mk hL
    have HO := Aside0.mk ho
    have HW := Aside0.mk hw
    have hn16 : nn ≤ 16 := by have := HNN.out; omega
    by_cases hlt : k < nn
    · have p0 : decide ((k : Int) < (nn : Int)) = true := decide_eq_true (by omega)
      have p1 := eq_true (show (k : Int) < (nn : Int) by omega)
      obtain ⟨ad, ead, hy0, hy1⟩ := at_T64 (Kd.R_reads' ho).2.2 k (Int.natCast_nonneg _) (by rw [wideTo_length]; have := HNN.out; omega)
      subst ead
      have hst := wd_step hL.run.inv hw (by have := HNN.out; omega)
      rw [Int.toNat_natCast] at hy0 hy1
      obtain ⟨x0, x1, hx⟩ : ∃ x0 x1, rd_T64 (wideTo q) k = ⟨x0, x1⟩ := ⟨_, _, rfl⟩
      rw [hx] at hy0 hy1 hst
      simp only [] at hy0 hy1
      have HMV := Aside0.mk hst.1
      have HWN := Aside0.mk hst.2
      have HLT := Aside0.mk hlt
      have hkn : (k : Int) ≤ 16 := by omega
      clear hL ho hw hk hlt hst hx
      go_wp2_with (first | (go_at_call 30; (with_reducible refine (l_takel HL.out x0 x1 HMV.out).mono ?_); rintro e wa ⟨z0, z1, z2, z3, rfl, hz, hL, hh⟩; have hl_ := hL.alloc (.cells #[.int .i64 z0, .int .i64 z1, .int .i64 z2, .int .i64 z3] 42); have ho_ := (HO.out.at_ (w1 := wa) (fun k hk _ => hh.2 k (.inr (.inr (.inr hk))))).below (below_alloc (Below.refl _ _) (.cells #[.int .i64 z0, .int .i64 z1, .int .i64 z2, .int .i64 z3] 42)); clear HL HO; have HL := Aside0.mk hl_; have HO := Aside0.mk ho_; clear hL hh hl_ ho_ hz))
      go_roundw
      case rel => exact ⟨k + 1, _, by go_num, HLT.out, HL.out, HO.out, HWN.out⟩
      case measure => have := HLT.out; simp [intOf]; omega
    · have p0 : decide ((k : Int) < (nn : Int)) = false := decide_eq_false (by omega)
      have p1 := eq_false (show ¬ (k : Int) < (nn : Int) by omega)
      have e2 : k = 2 * q := by have := HNN.out; omega
      have e3 : k / 2 = q := by omega
      have HWK := Aside0.mk (show working m.workers = q by have := hw.work; rw [e3] at this; exact this)
      have HPKE := Aside0.mk (show m.peak = q by have := hw.peak; rw [e3] at this; exact this)
      have HPI := Aside0.mk (show m.picks = nn by have := hw.picks; omega)
      clear hL ho hw hk hlt e2 e3
      go_wp2
      go_loopw [16, 17] (fun s i wr => ∃ k : Nat, i = .int .i64 ((k : Int) + 1) ∧ k ≤ m.workers.length ∧ s = .int .i64 (working (m.workers.take k)) ∧ Law w wr (fun k => some k = (Value.slice A2 nn c2).ownBlock) X w.heap.size w2.heap.size pw pj pr (.slice A xs.length c) xs g m) (fun _ i _ => 10 - (intOf i).toNat)
      case atStart => exact ⟨0, rfl, Nat.zero_le _, by rw [List.take_zero]; rfl, HL.out⟩
      case round =>
        obtain ⟨k, rfl, hk, rfl, hL⟩ := hrel
        clear HL
        have HL := Aside0.mk hL
        have HWL := Aside0.mk (show (m.workers.length : Int) = pw by rw [hL.run.inv.ok.nw, hL.eq.2])
        have hpw := HP.out.1
        have hk8 : k ≤ 8 := by have := HWL.out; omega
        have d0 : wr.cell? ⟨w2.heap.size, 0, none⟩ = some (.int .i64 pw) := (blk_cell HL.out.pb 0).trans rfl
        have d1 : wr.cell? ⟨w2.heap.size, 1, none⟩ = some (.int .i64 pj) := (blk_cell HL.out.pb 1).trans rfl
        have d2 : wr.cell? ⟨w2.heap.size, 2, none⟩ = some (.int .i64 pr) := (blk_cell HL.out.pb 2).trans rfl
        by_cases hlt : k < m.workers.length
        · have p0 : decide ((k : Int) + 1 ≤ pw) = true := decide_eq_true (by have := HWL.out; omega)
          have p1 := eq_true (show (k : Int) + 1 ≤ pw by have := HWL.out; omega)
          have hwt := working_take m.workers hlt
          have hwr := working_le (m.workers.take k)
          have hwl2 : (m.workers.take k).length ≤ k := by rw [List.length_take]; omega
          have hpc := placeOf_worker (m := m) hlt
          obtain ⟨y0, y1, y2, hy⟩ : ∃ y0 y1 y2, m.workers[k].f0 = ⟨y0, y1, y2⟩ := ⟨_, _, _, rfl⟩
          rw [hy] at hpc hwt
          have HPC : Aside0 (placeOf m ((k : Int) + 1) = ⟨y0, y1, y2⟩) := Aside0.mk hpc
          have HPR := Aside0.mk (show 0 ≤ (k : Int) + 1 ∧ (k : Int) + 1 ≤ m.workers.length + 1 from ⟨by omega, by omega⟩)
          have HLT := Aside0.mk hlt
          obtain ⟨s, hs⟩ : ∃ s, working (m.workers.take k) = s := ⟨_, rfl⟩
          rw [hs] at hwt hwr ⊢
          have hs8 : 0 ≤ s ∧ s ≤ 8 := by omega
          simp only [] at hwt
          clear hwr hwl2 hpc hy hL hlt hk hs
          by_cases hy2 : y0 = 2
          · have t0 : (y0 == 2) = true := beq_iff_eq.mpr hy2
            have t1 := eq_true hy2
            rw [if_pos hy2] at hwt
            have HWT := Aside0.mk hwt
            clear hwt hy2
            go_wp2_with (first | (go_at_call 29; (with_reducible refine (l_placev HL.out _ HPR.out).mono ?_); rintro e wa ⟨z0, z1, z2, rfl, hz, hL, hb⟩; rw [HPC.out] at hz; obtain ⟨rfl, rfl, rfl⟩ := S59.mk.inj hz; have hl_ := hL.alloc (.cells #[.int .i64 y0, .int .i64 y1, .int .i64 y2] 59); clear HL; have HL := Aside0.mk hl_; clear d0 d1 d2 hL hb hl_ hz))
            go_roundw
            case rel => exact ⟨k + 1, by go_num, HLT.out, by rw [HWT.out], HL.out⟩
            case measure => simp [intOf]; omega
          · have t0 : (y0 == 2) = false := beq_eq_false_iff_ne.mpr hy2
            have t1 := eq_false hy2
            rw [if_neg hy2] at hwt
            have HWT := Aside0.mk hwt
            clear hwt hy2
            go_wp2_with (first | (go_at_call 29; (with_reducible refine (l_placev HL.out _ HPR.out).mono ?_); rintro e wa ⟨z0, z1, z2, rfl, hz, hL, hb⟩; rw [HPC.out] at hz; obtain ⟨rfl, rfl, rfl⟩ := S59.mk.inj hz; have hl_ := hL.alloc (.cells #[.int .i64 y0, .int .i64 y1, .int .i64 y2] 59); clear HL; have HL := Aside0.mk hl_; clear d0 d1 d2 hL hb hl_ hz))
            go_roundw
            case rel => exact ⟨k + 1, by go_num, HLT.out, by rw [HWT.out]; simp, HL.out⟩
            case measure => simp [intOf]; omega
        · have p0 : decide ((k : Int) + 1 ≤ pw) = false := decide_eq_false (by have := HWL.out; omega)
          have p1 := eq_false (show ¬ (k : Int) + 1 ≤ pw by have := HWL.out; omega)
          have hkw : m.workers.take k = m.workers := List.take_of_length_le (by omega)
          rw [hkw, HWK.out]
          have HPK0 := Aside0.mk HPKE.out
          clear hL hk hlt hkw
          go_wp2_with (first | (go_at_call 31; (with_reducible refine (r_peak HL.out.run).mono ?_); rintro e wp ⟨rfl, hwp⟩; subst hwp; rw [HPK0.out]))
          have HP0 : Aside0 (m.picks = nn + ((0 : Nat) : Int)) := Aside0.mk (by rw [HPI.out]; omega)
          clear d0 d1 d2 p0 p1
          go_loopw [20] (fun i wr => ∃ (k : Nat) (m : Mach), i = .int .i64 k ∧ Law w wr (fun k => some k = (Value.slice A2 nn c2).ownBlock) X w.heap.size w2.heap.size pw pj pr (.slice A xs.length c) xs g m ∧ m.peak = q ∧ m.picks = nn + k) (fun i _ => 1004011 - (intOf i).toNat)
          case atStart => exact ⟨0, _, rfl, HL.out, HPK0.out, HP0.out⟩
          case round =>
            obtain ⟨k, m, rfl, hL, hpk, hpi⟩ := hrel
            clear HL HPK0 HP0
            have HL := Aside0.mk hL
            have HPK := Aside0.mk hpk
            have HK := Aside0.mk hpi
            have hkb : (k : Int) ≤ 1004010 := by
              have h1 := picks_le hL.run.inv
              have h2 := bound_le hL.run.inv.ok
              omega
            have HI := Aside0.mk (show (0 : Int) ≤ (k : Int) by omega)
            cases hd : doneOf m
            · have HNE := Aside0.mk (progress hL.run.inv hd)
              have HSTEP := Aside0.mk (fun r : Int => pick_facts hL.run.inv HNE.out r)
              have HRP := Aside0.mk (rem_pos hL.run.inv.ok hd)
              have HPT := Aside0.mk hL.run.inv.pot
              have hkb2 : (k : Int) < 1004010 := by
                have h1 := HRP.out
                have h2 := HPT.out
                have h3 := bound_le hL.run.inv.ok
                omega
              clear hL hpk hpi
              go_wp2_with (first | (go_at_call 17; (with_reducible refine (l_done HL.out).mono ?_); rintro e wa ⟨rfl, hL, hb⟩; clear HL; have HL := Aside0.mk hL; have c0 : wa.cell? ⟨w.heap.size, 0, none⟩ = some (.int .i64 X.x0) := (blk_cell HL.out.wb 0).trans rfl; have c1 : wa.cell? ⟨w.heap.size, 1, none⟩ = some (.int .i64 X.x1) := (blk_cell HL.out.wb 1).trans rfl; have c2 : wa.cell? ⟨w.heap.size, 2, none⟩ = some (.int .i64 X.x2) := (blk_cell HL.out.wb 2).trans rfl; have c3 : wa.cell? ⟨w.heap.size, 3, none⟩ = some (.slice X.A3 X.l3.length X.c3) := (blk_cell HL.out.wb 3).trans rfl; have c4 : wa.cell? ⟨w.heap.size, 4, none⟩ = some (.slice X.A4 X.l4.length X.c4) := (blk_cell HL.out.wb 4).trans rfl; have c5 : wa.cell? ⟨w.heap.size, 5, none⟩ = some (.int .i64 X.x5) := (blk_cell HL.out.wb 5).trans rfl; clear hL hb) | (go_at_call 20; (with_reducible refine (l_at HL.out HXW.out _ HI.out).mono ?_); rintro e we ⟨r, rfl, hL, hb⟩; clear HL; have HL := Aside0.mk hL; clear c0 c1 c2 c3 c4 c5; clear hL hb) | (go_at_call 19; (with_reducible refine (l_pickv HL.out _ HNE.out).mono ?_); rintro e wf ⟨z0, z1, z2, z3, rfl, hz, hL, hh⟩; have hl_ := hL.alloc (.cells #[.int .i64 z0, .int .i64 z1, .int .i64 z2, .int .i64 z3] 42); obtain ⟨wf2, hwf⟩ : ∃ W0, wf.alloc (.cells #[.int .i64 z0, .int .i64 z1, .int .i64 z2, .int .i64 z3] 42) = W0 := ⟨_, rfl⟩; rw [hwf] at hl_; have HSR := Aside0.mk (HSTEP.out r); obtain ⟨m2, hm2⟩ : ∃ m2, step m (picked m r) = m2 := ⟨_, rfl⟩; rw [hm2] at hl_ HSR; clear HL HSTEP; have HL := Aside0.mk hl_; have d0 : wf2.cell? ⟨w2.heap.size, 0, none⟩ = some (.int .i64 pw) := (blk_cell HL.out.pb 0).trans rfl; have d1 : wf2.cell? ⟨w2.heap.size, 1, none⟩ = some (.int .i64 pj) := (blk_cell HL.out.pb 1).trans rfl; have d2 : wf2.cell? ⟨w2.heap.size, 2, none⟩ = some (.int .i64 pr) := (blk_cell HL.out.pb 2).trans rfl; clear hL hh hl_ hz hm2; have HPK2 : Aside0 (m2.peak = q) := Aside0.mk (by have h1 := HSR.out.2.2.1.pkn; have h2 := HSR.out.2.1; have h3 := HPK.out; have h4 := HL.out.eq; have h5 := HQQ.out; rw [h4.1, h4.2] at h1; omega); have HBP := Aside0.mk (picks_le HL.out.run.inv); have HBL := Aside0.mk (bound_le HL.out.run.inv.ok); have tb0 : decide (boundOf m2 < (k : Int)) = false := decide_eq_false (by have := HBP.out; have := HSR.out.1; have := HK.out; omega); have tb1 := eq_false (show ¬ boundOf m2 < (k : Int) by have := HBP.out; have := HSR.out.1; have := HK.out; omega)) | (go_at_call 25; (with_reducible refine (l_bound HL.out HP.out HLN.out HJS.out).mono ?_); rintro e wc ⟨rfl, hL, hb⟩; clear HL; have HL := Aside0.mk hL; clear d0 d1 d2; clear hL hb) | (go_at_call 31; (with_reducible refine (r_peak HL.out.run).mono ?_); rintro e wp ⟨rfl, hwp⟩; subst hwp; rw [HPK2.out]))
              go_roundw
              case rel => exact ⟨k + 1, m2, by go_num, HL.out, HPK2.out, by rw [HSR.out.1, HK.out]; omega⟩
              case measure => simp [intOf]; omega
            · clear hL hpk hpi
              go_wp2_with (first | (go_at_call 17; (with_reducible refine (l_done HL.out).mono ?_); rintro e wa ⟨rfl, hL, hb⟩; clear HL; have HL := Aside0.mk hL; have d0 : wa.cell? ⟨w2.heap.size, 0, none⟩ = some (.int .i64 pw) := (blk_cell HL.out.pb 0).trans rfl; have d1 : wa.cell? ⟨w2.heap.size, 1, none⟩ = some (.int .i64 pj) := (blk_cell HL.out.pb 1).trans rfl; have d2 : wa.cell? ⟨w2.heap.size, 2, none⟩ = some (.int .i64 pr) := (blk_cell HL.out.pb 2).trans rfl; clear hL hb) | (go_at_call 15; (with_reducible refine (l_newM (b1 := w.heap.size) (b4 := w2.heap.size) X A c (fun k => some k = (Value.slice A2 nn c2).ownBlock) HL.out.run.bel HL.out.mlt HP.out HLN.out HJS.out HL.out.wb (Nat.le_refl _) HL.out.pb HW1.out HL.out.js HV0.out).mono ?_); rintro e w8 ⟨g2, rfl, hL, hb⟩; clear HL d0 d1 d2; have HL := Aside0.mk hL; clear hL hb))
              have HPK0 : Aside0 ((newM pw pj pr xs pw.toNat).peak ≤ q) := Aside0.mk (by show (0 : Int) ≤ q; omega)
              have HP0 : Aside0 ((newM pw pj pr xs pw.toNat).picks = ((0 : Nat) : Int)) := Aside0.mk rfl
              go_loopw [25] (fun i wr => ∃ (k : Nat) (m : Mach), i = .int .i64 k ∧ Law w wr (fun k => some k = (Value.slice A2 nn c2).ownBlock) X w.heap.size w2.heap.size pw pj pr (.slice A xs.length c) xs g2 m ∧ m.peak ≤ q ∧ m.picks = k) (fun i _ => 1004011 - (intOf i).toNat)
              case atStart => exact ⟨0, _, rfl, HL.out, HPK0.out, HP0.out⟩
              case round =>
                obtain ⟨k, m, rfl, hL, hpk, hpi⟩ := hrel
                clear HL HPK0 HP0
                have HL := Aside0.mk hL
                have HPK := Aside0.mk hpk
                have HK := Aside0.mk hpi
                have hkb : (k : Int) ≤ 1004010 := by
                  have h1 := picks_le hL.run.inv
                  have h2 := bound_le hL.run.inv.ok
                  omega
                have HI := Aside0.mk (show (0 : Int) ≤ (k : Int) by omega)
                cases hd : doneOf m
                · have HNE := Aside0.mk (progress hL.run.inv hd)
                  have HSTEP := Aside0.mk (fun r : Int => pick_facts hL.run.inv HNE.out r)
                  have HRP := Aside0.mk (rem_pos hL.run.inv.ok hd)
                  have HPT := Aside0.mk hL.run.inv.pot
                  have hkb2 : (k : Int) < 1004010 := by
                    have h1 := HRP.out
                    have h2 := HPT.out
                    have h3 := bound_le hL.run.inv.ok
                    omega
                  clear hL hpk hpi
                  go_wp2_with (first | (go_at_call 17; (with_reducible refine (l_done HL.out).mono ?_); rintro e wa ⟨rfl, hL, hb⟩; clear HL; have HL := Aside0.mk hL; have c0 : wa.cell? ⟨w.heap.size, 0, none⟩ = some (.int .i64 X.x0) := (blk_cell HL.out.wb 0).trans rfl; have c1 : wa.cell? ⟨w.heap.size, 1, none⟩ = some (.int .i64 X.x1) := (blk_cell HL.out.wb 1).trans rfl; have c2 : wa.cell? ⟨w.heap.size, 2, none⟩ = some (.int .i64 X.x2) := (blk_cell HL.out.wb 2).trans rfl; have c3 : wa.cell? ⟨w.heap.size, 3, none⟩ = some (.slice X.A3 X.l3.length X.c3) := (blk_cell HL.out.wb 3).trans rfl; have c4 : wa.cell? ⟨w.heap.size, 4, none⟩ = some (.slice X.A4 X.l4.length X.c4) := (blk_cell HL.out.wb 4).trans rfl; have c5 : wa.cell? ⟨w.heap.size, 5, none⟩ = some (.int .i64 X.x5) := (blk_cell HL.out.wb 5).trans rfl; clear hL hb) | (go_at_call 20; (with_reducible refine (l_at HL.out HXW.out _ HI.out).mono ?_); rintro e we ⟨r, rfl, hL, hb⟩; clear HL; have HL := Aside0.mk hL; clear c0 c1 c2 c3 c4 c5; clear hL hb) | (go_at_call 19; (with_reducible refine (l_pickv HL.out _ HNE.out).mono ?_); rintro e wf ⟨z0, z1, z2, z3, rfl, hz, hL, hh⟩; have hl_ := hL.alloc (.cells #[.int .i64 z0, .int .i64 z1, .int .i64 z2, .int .i64 z3] 42); obtain ⟨wf2, hwf⟩ : ∃ W0, wf.alloc (.cells #[.int .i64 z0, .int .i64 z1, .int .i64 z2, .int .i64 z3] 42) = W0 := ⟨_, rfl⟩; rw [hwf] at hl_; have HSR := Aside0.mk (HSTEP.out r); obtain ⟨m2, hm2⟩ : ∃ m2, step m (picked m r) = m2 := ⟨_, rfl⟩; rw [hm2] at hl_ HSR; clear HL HSTEP; have HL := Aside0.mk hl_; have d0 : wf2.cell? ⟨w2.heap.size, 0, none⟩ = some (.int .i64 pw) := (blk_cell HL.out.pb 0).trans rfl; have d1 : wf2.cell? ⟨w2.heap.size, 1, none⟩ = some (.int .i64 pj) := (blk_cell HL.out.pb 1).trans rfl; have d2 : wf2.cell? ⟨w2.heap.size, 2, none⟩ = some (.int .i64 pr) := (blk_cell HL.out.pb 2).trans rfl; clear hL hh hl_ hz hm2; have HPK2 : Aside0 (m2.peak ≤ q) := Aside0.mk (by have h1 := HSR.out.2.2.1.pkn; have h2 := HSR.out.2.1; have h3 := HPK.out; have h4 := HL.out.eq; have h5 := HQQ.out; rw [h4.1, h4.2] at h1; omega); have HBP := Aside0.mk (picks_le HL.out.run.inv); have HBL := Aside0.mk (bound_le HL.out.run.inv.ok); have tb0 : decide (boundOf m2 < (k : Int)) = false := decide_eq_false (by have := HBP.out; have := HSR.out.1; have := HK.out; omega); have tb1 := eq_false (show ¬ boundOf m2 < (k : Int) by have := HBP.out; have := HSR.out.1; have := HK.out; omega)) | (go_at_call 25; (with_reducible refine (l_bound HL.out HP.out HLN.out HJS.out).mono ?_); rintro e wc ⟨rfl, hL, hb⟩; clear HL; have HL := Aside0.mk hL; clear d0 d1 d2; clear hL hb) | (go_at_call 31; (with_reducible refine (r_peak HL.out.run).mono ?_); rintro e wp ⟨rfl, hwp⟩; subst hwp; have tk0 : decide ((q : Int) < m2.peak) = false := decide_eq_false (by have := HPK2.out; omega); have tk1 := eq_false (show ¬ (q : Int) < m2.peak by have := HPK2.out; omega)))
                  go_roundw
                  case rel => exact ⟨k + 1, m2, by go_num, HL.out, HPK2.out, by rw [HSR.out.1, HK.out]; omega⟩
                  case measure => simp [intOf]; omega
                · clear hL hpk hpi
                  go_wp2_with (first | (go_at_call 17; (with_reducible refine (l_done HL.out).mono ?_); rintro e wa ⟨rfl, hL, hb⟩; clear HL; have HL := Aside0.mk hL; clear hL hb))
                  go_ret
                  exact ⟨rfl, HL.out.run.bel⟩

end Go.Proofs.Ythcchpbidbbiaaa.Sc
namespace Go.Proofs.Ythcchpbidbbiaaa.schedWide
open Go.ChangeShapes Go.WideShapes Go.ChangeAt Go.RowKit Go.Joins
open Go.Proofs.YthcchpbidbbiaaaW
set_option linter.unusedVariables false
theorem own : ownKnob Try.prog.godebug = none := by kernel_rfl
theorem laidOut : laidOutB Try.prog = true := by kernel_rfl
set_option maxRecDepth 100000 in
theorem lifted (os : Os) (started : os.Started) (H : Type) (enc : TypeId × Value → H) :
    ReturnsInHanded {} Try.checked os 6 .any (Rows.schedWideSpec.pre6 enc Try.prog Try.f6 Rows.schedWideRow.domain false) (Rows.schedWideSpec.post enc Try.prog Try.f6 false true false false) := by
  refine returnsInHanded_of_change_sized (C := Try.checked) own started (by kernel_rfl) Try.func6
    (ChangeSpec.witness6 (enc := enc) (C := Try.checked) false ⟨#[], #[.agg #[.int .i64 0, .int .i64 0, .int .i64 0, .slice none 0 0, .slice none 0 0, .int .i64 0]], []⟩ 8 (by kernel_rfl) (by kernel_rfl) (by kernel_rfl) (by kernel_rfl)) ?_
  intro W base args ds gs before hval0 hW hcnd hsz0 _
  have hval : ∀ (j : Nat) t v, Try.f6.params[j]? = some t → args[j]? = some v → Value.okWide Try.prog W .any base t v := hval0
  have hW' := hW
  obtain ⟨p, q, hA0, hV, rfl, hfz, hnd⟩ := hW
  have hA : DataW.TrodAll enc Try.prog W 0 (fun _ => true) true Try.f6.params.toList args.toList ds p := hA0
  rw [Try.params6] at hA hval
  obtain ⟨v0, vs0, d0, ds0, p0, q0, hargs, rfl, rfl, h0, r0⟩ := trodAll_cons hA
  obtain ⟨rfl, rfl, rfl⟩ := trodAll_nil r0
  obtain rfl : args = #[v0] := by cases args; simp_all
  obtain ⟨rfl, rfl⟩ := trodVars_none hV
  have k0 := h0
  have lt0 : ∀ x ∈ p0, x.block < W.heap.size := by obtain ⟨m, hm⟩ := k0; exact DataW.trod_lt m _ _ _ hm
  obtain ⟨X, rfl, hX⟩ := Sc.work_open (fun _ => rfl) (hval 0 37 v0 rfl rfl) h0
  clear hA0 hval0 hsz0
  refine (Sc.wide_walk X W hX).mono fun e W' ⟨he, bel⟩ => ?_
  subst he
  exact ⟨_, rfl, _, _, _, [], _, [], hW', trodAll_mk1 (shut_bool Try.underlying4 _), (trodAll_cons_mk (Below.trod laidOut (by kernel_rfl) (of_decide_eq_true (by kernel_rfl)) k0 bel lt0) trodAll_mk0), rfl, bel.frame _, fun h => by cases h⟩
theorem over : Rows.schedWideRow.holds Try.pinned (OpenSpec.ofChange Rows.schedWideSpec) :=
  OpenClaim.holds_of_wide 6 Try.f6 rfl rfl rfl rfl rfl rfl rfl ⟨rfl, rfl, rfl, rfl, rfl⟩ rfl rfl rfl rfl rfl (by kernel_rfl) Try.func6 (by kernel_rfl)
    (of_decide_eq_true (by kernel_rfl)) (by unfold Func.isWrapper; first | (rw [if_pos (by decide +kernel)]; kernel_rfl) | (rw [if_neg (by decide +kernel)]; exact ⟨rfl, rfl⟩))
    (fun os started H enc _ => lifted os started H enc)
theorem proved : Rows.SchedWideSaid := over
#print axioms proved
end Go.Proofs.Ythcchpbidbbiaaa.schedWide
namespace Go.Proofs.Ythcchpbidbbiaaa
/-- The row, under a short name, for the claim. -/
theorem schedWide_holds : Rows.SchedWideSaid := schedWide.proved
end Go.Proofs.Ythcchpbidbbiaaa
