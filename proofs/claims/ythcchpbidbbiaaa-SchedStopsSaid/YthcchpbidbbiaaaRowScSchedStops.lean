/- Proved: for every Work x and every slice of ints order, SchedStops returns true: no condition. -/
import Derived.Test.YthcchpbidbbiaaaScf
import Derived.Test.YthcchpbidbbiaaaScg
import Derived.Test.YthcchpbidbbiaaaRows
import Derived.WalkKit
import Derived.ProofKit
import Derived.OpenShut
import Derived.ShutString
import Derived.ChangeOld
import Derived.Below
import Derived.SizedLaws
import Derived.Lib.SmallJoins
namespace Go.Proofs.Ythcchpbidbbiaaa.Sc
open Go.RowKit Go.Proofs.YthcchpbidbbiaaaW.PrintWords Go.Proofs.YthcchpbidbbiaaaW.PrintLast Go.Proofs.YthcchpbidbbiaaaW.PrintMore Go.Proofs.Ythcchpbidbbiaaa.PSchedSide
set_option linter.unusedVariables false
set_option linter.unusedSimpArgs false
/-- How many processes are alive. -/
def al (m : Mach) : Int := (if m.disp then 1 else 0) + aliveW m.workers + (if m.coll then 1 else 0)
theorem aliveW_zero {ws : List S99} (h : aliveW ws = 0) : anyUp ws = false := by
  induction ws with
  | nil => rfl
  | cons x ws ih =>
    have h0 := aliveW_nonneg ws
    have hx : aliveW (x :: ws) = (if x.f0.f0 = 0 then 0 else 1) + aliveW ws := by simp [aliveW]
    rw [hx] at h
    by_cases hz : x.f0.f0 = 0
    · rw [if_pos hz] at h
      have := ih (by omega)
      unfold anyUp at this ⊢
      simp only [List.any_cons, this, hz]
      simp
    · rw [if_neg hz] at h
      omega
theorem al_zero {m : Mach} (h : al m ≤ 0) : doneOf m = true := by
  unfold al at h
  have h0 := aliveW_nonneg m.workers
  have hd : m.disp = false := by
    cases hh : m.disp
    · rfl
    · rw [hh] at h; simp at h; split at h <;> omega
  have hc : m.coll = false := by
    cases hh : m.coll
    · rfl
    · rw [hh, hd] at h; simp at h; omega
  rw [hd, hc] at h
  simp at h
  have hw := aliveW_zero (ws := m.workers) (by omega)
  unfold doneOf
  rw [hd, hc, hw]
  rfl
theorem aliveW_le (ws : List S99) : aliveW ws ≤ ws.length := by
  induction ws with
  | nil => simp [aliveW]
  | cons x ws ih =>
    have hx : aliveW (x :: ws) = (if x.f0.f0 = 0 then 0 else 1) + aliveW ws := by simp [aliveW]
    rw [hx, List.length_cons]
    split <;> omega
theorem al_le {m : Mach} : al m ≤ m.workers.length + 2 := by
  have := aliveW_le m.workers
  unfold al
  split <;> split <;> omega
/-- What ends by itself: c above 0. -/
theorem stop_some {m : Mach} {c : Int} (hI : Inv m) (hs : m.stopped = true) (h0 : 1 ≤ c) (h1 : c ≤ m.workers.length + 1) (ha : (placeOf m c).f0 ≠ 0) :
    (⟨c, 1⟩ : S64) ∈ mvs m ∧ (evOf m ⟨c, 1⟩).p = c ∧ placeOf (step m ⟨c, 1⟩) c = ⟨0, 0, 0⟩ ∧ (step m ⟨c, 1⟩).stopped = true ∧ (step m ⟨c, 1⟩).got = m.got ∧ al (step m ⟨c, 1⟩) ≤ al m - 1 ∧ (step m ⟨c, 1⟩).workers.length = m.workers.length := by
  have hO := hI.ok
  have hx : (⟨c, 1⟩ : S64) ∈ mvs m := by
    apply mem_stop hs (by omega) h1
    unfold rdy
    rw [if_neg (by omega)]
    unfold placeOf at ha
    rw [if_neg (by omega), if_neg (by omega)] at ha
    by_cases hc : c = m.workers.length + 1
    · rw [if_pos hc] at ha ⊢
      cases hh : m.coll
      · rw [hh] at ha; simp at ha
      · simp [readyC, hh]
    · rw [if_neg hc] at ha ⊢
      simp [readyW, ha]
  refine ⟨hx, ?_⟩
  have hk := kind_of_mem hO hx
  generalize step m ⟨c, 1⟩ = m' at hk ⊢
  generalize evOf m ⟨c, 1⟩ = e at hk ⊢
  cases hk with
  | close h2 h3 hd hu => simp at h3
  | drop h2 h3 hs' hd hu => simp only [] at h2; omega
  | send h2 h3 hd hu hl => simp at h3
  | cancel h2 h3 hs' hc =>
    simp only [] at h2
    refine ⟨rfl, ?_, hs, rfl, ?_, rfl⟩
    · unfold placeOf
      simp only []
      rw [if_neg (by omega), if_neg (by omega), if_pos (by omega)]
      simp
    · unfold al
      simp only [hc]
      simp
  | full h2 h3 hc hg => simp at h3
  | got q rest h2 h3 hc hg hv => simp at h3
  | quit a b y hw h2 h3 hs' hk =>
    simp only [] at h2
    have hlen : (a ++ (⟨⟨0, 0, 0⟩⟩ : S99) :: b).length = m.workers.length := by rw [hw]; simp
    have hal : a.length < m.workers.length := by rw [hw]; simp
    refine ⟨rfl, ?_, hs, rfl, ?_, hlen⟩
    · unfold placeOf
      simp only []
      rw [hlen, if_neg (by omega), if_neg (by omega), if_neg (by omega)]
      unfold wk rd_T99
      simp only []
      have e : (c - 1).toNat = a.length := by omega
      rw [e, List.getD_eq_getElem?_getD, List.getElem?_append_right (Nat.le_refl _), Nat.sub_self]
      rfl
    · have h5 := aliveW_mid a b y
      rw [← hw, if_neg hk] at h5
      have h6 := aliveW_mid a b ⟨0, 0, 0⟩
      simp at h6
      unfold al
      simp only [h5, h6]
      omega
  | step a b k1 k2 hw h2 h3 hk => simp at h3
  | gave a b k1 hw h2 h3 hl => simp at h3
  | left a b hw h2 h3 hs' hd => simp at h3
  | took a b q rest hw h2 h3 hq => simp at h3
/-- The dispatcher may drop what is left. -/
theorem stop_drop {m : Mach} (hI : Inv m) (hs : m.stopped = true) (hd : m.disp = true) (hu : und m ≠ 0) :
    (⟨0, 1⟩ : S64) ∈ mvs m ∧ (evOf m ⟨0, 1⟩).k = 2 ∧ (step m ⟨0, 1⟩).stopped = true ∧ (step m ⟨0, 1⟩).got = m.got ∧ al (step m ⟨0, 1⟩) = al m ∧ (step m ⟨0, 1⟩).disp = true ∧ und (step m ⟨0, 1⟩) = 0 ∧ (step m ⟨0, 1⟩).workers.length = m.workers.length := by
  have hO := hI.ok
  have hx : (⟨0, 1⟩ : S64) ∈ mvs m := by
    apply mem_stop hs (by omega) (by omega)
    unfold rdy
    rw [if_pos rfl]
    unfold readyD
    rw [hd, if_neg hu]
    simp
  refine ⟨hx, ?_⟩
  have hk := kind_of_mem hO hx
  generalize step m ⟨0, 1⟩ = m' at hk ⊢
  generalize evOf m ⟨0, 1⟩ = e at hk ⊢
  cases hk with
  | drop h2 h3 hs' hd' hu' => exact ⟨rfl, hs, rfl, rfl, hd, by simp [und], rfl⟩
  | close h2 h3 _ _ => simp at h3
  | send h2 h3 _ _ _ => simp at h3
  | cancel h2 h3 _ _ => simp only [] at h2; omega
  | full h2 h3 _ _ => simp at h3
  | got q rest h2 h3 _ _ _ => simp at h3
  | quit a b y hw h2 h3 _ _ => simp only [] at h2; omega
  | step a b k1 k2 hw h2 h3 _ => simp at h3
  | gave a b k1 hw h2 h3 _ => simp at h3
  | left a b hw h2 h3 _ _ => simp at h3
  | took a b q rest hw h2 h3 _ => simp at h3
theorem stop_no {m : Mach} (hu : und m = 0) : (⟨0, 1⟩ : S64) ∉ mvs m := by
  intro h
  have h1 := (mem_mvs.1 h).2.2
  rcases h1 with ⟨h2, _⟩ | ⟨_, _, h2⟩
  · simp at h2
  · unfold rdy at h2
    rw [if_pos rfl] at h2
    unfold readyD at h2
    rw [if_pos hu] at h2
    simp at h2
theorem stop_close {m : Mach} (hI : Inv m) (hs : m.stopped = true) (hd : m.disp = true) (hu : und m = 0) :
    (⟨0, 0⟩ : S64) ∈ mvs m ∧ (evOf m ⟨0, 0⟩).p = 0 ∧ placeOf (step m ⟨0, 0⟩) 0 = ⟨0, 0, 0⟩ ∧ (step m ⟨0, 0⟩).stopped = true ∧ (step m ⟨0, 0⟩).got = m.got ∧ al (step m ⟨0, 0⟩) ≤ al m - 1 ∧ (step m ⟨0, 0⟩).workers.length = m.workers.length := by
  have hO := hI.ok
  have hx : (⟨0, 0⟩ : S64) ∈ mvs m := by
    apply mem_disp
    unfold readyD
    rw [hd, if_pos hu]
    simp
  refine ⟨hx, ?_⟩
  have hk := kind_of_mem hO hx
  generalize step m ⟨0, 0⟩ = m' at hk ⊢
  generalize evOf m ⟨0, 0⟩ = e at hk ⊢
  cases hk with
  | close h2 h3 hd' hu' =>
    refine ⟨rfl, ?_, hs, rfl, ?_, rfl⟩
    · unfold placeOf
      rw [if_neg (by simp only []; omega), if_pos rfl]
      simp
    · unfold al
      simp only [hd]
      simp
      omega
  | drop h2 h3 _ _ _ => simp at h3
  | send h2 h3 _ hu' _ => exact absurd hu hu'
  | cancel h2 h3 _ _ => simp at h3
  | full h2 h3 _ _ => simp only [] at h2; omega
  | got q rest h2 h3 _ _ _ => simp only [] at h2; omega
  | quit a b y hw h2 h3 _ _ => simp at h3
  | step a b k1 k2 hw h2 h3 _ => simp only [] at h2; omega
  | gave a b k1 hw h2 h3 _ => simp only [] at h2; omega
  | left a b hw h2 h3 _ _ => simp only [] at h2; omega
  | took a b q rest hw h2 h3 _ => simp only [] at h2; omega
/-- If every process of a round is down, none is alive. -/
theorem al_down {m : Mach} (h : ∀ c : Nat, c < m.workers.length + 2 → (placeOf m c).f0 = 0) : al m ≤ 0 := by
  have h1 : (measOf m).a ≤ 0 := by
    unfold measOf
    simp only []
    have : ∀ k, k ≤ m.workers.length + 2 → aliveTo m k = 0 := by
      intro k hk
      induction k with
      | zero => rfl
      | succ k ih => rw [aliveTo, ih (by omega), if_pos (h k (by omega))]; rfl
    rw [this _ (Nat.le_refl _)]
    exact Int.le_refl _
  rw [measOf_eq] at h1
  exact h1
end Go.Proofs.Ythcchpbidbbiaaa.Sc
namespace Go.Proofs.Ythcchpbidbbiaaa.Sc
open Go.RowKit Go.Proofs.YthcchpbidbbiaaaW.PrintWords Go.Proofs.YthcchpbidbbiaaaW.PrintLast Go.Proofs.YthcchpbidbbiaaaW.PrintMore Go.Proofs.Ythcchpbidbbiaaa.PSchedSide
set_option linter.unusedVariables false
set_option linter.unusedSimpArgs false
theorem run_live {m : Mach} (hI : Inv m) (hs : m.stopped = false) (hk : m.picks < boundOf m) : doneOf m = false := by
  cases h : doneOf m
  · rfl
  · have h1 := (hI.run hs).2.2
    have hO := hI.ok
    obtain ⟨h2, h3, h4⟩ := done_facts hO h
    obtain ⟨hdr, hct, _⟩ := hI.run hs
    have hu := hI.dis h2
    rw [und_eq hdr] at hu
    have hlen : 0 < m.workers.length := by have := hO.nw; have := hO.pw; omega
    have hse : m.sent = [] := (hI.low hs ⟨m.workers[0], List.getElem_mem hlen, by rw [h4 _ (List.getElem_mem hlen)]⟩).2
    have hw0 : working m.workers = 0 := working_zero (fun x hx => by rw [h4 x hx])
    have hgl : m.got.length = m.jobs.length := by
      rcases hI.out with h | ⟨_, h | h⟩
      · rw [h3] at h; simp at h
      · exact h.2
      · rw [hs] at h; simp at h
    have hjd := hO.jd
    rw [hse, hw0] at hct
    have hgv : m.given = [] := List.eq_nil_of_length_eq_zero (by simp at hct; omega)
    have hsw : ∀ ws : List S99, (∀ x ∈ ws, x.f0 = ⟨0, 0, 0⟩) → sumW ws = 0 := by
      intro ws
      induction ws with
      | nil => intro _; rfl
      | cons x ws ih =>
        intro h
        have h4 := ih (fun y hy => h y (List.mem_cons_of_mem _ hy))
        have h5 : wrem x = 0 := by unfold wrem; rw [h x List.mem_cons_self]; rfl
        simp only [sumW, List.map_cons, List.sum_cons] at h4 ⊢
        omega
    have hrs : restS m = 0 := by
      unfold restS
      rw [hdr, if_neg (by simp), List.drop_eq_nil_of_le (by omega)]
      rfl
    have hr : rem m = 0 := by
      unfold rem
      rw [h2, h3, hrs, hse, hgv, hsw m.workers h4]
      rfl
    omega
theorem pick_keep {m : Mach} (hI : Inv m) (hx : mvs m ≠ []) (r : Int) : (step m (picked m r)).picks = m.picks + 1 ∧ (step m (picked m r)).stopped = m.stopped ∧ boundOf (step m (picked m r)) = boundOf m := by
  have h := kind_bound (kind_of_mem hI.ok (picked_mem r hx))
  exact ⟨h.2.2.2.1, h.2.2.1, h.1⟩
theorem alive_disp {m : Mach} (h : (placeOf m 0).f0 ≠ 0) : m.disp = true := by
  cases hh : m.disp
  · unfold placeOf at h
    rw [if_neg (by omega), if_pos rfl, hh] at h
    simp at h
  · rfl
theorem turn_c {p : Int} (hp : 1 ≤ p) {k0 : Int} (h0 : 0 ≤ k0) (h1 : k0 < p + 2) (c : Nat) (hc : (c : Int) < p + 2) : ∃ j : Nat, (j : Int) < p + 2 ∧ Int.tmod (k0 + j) (p + 2) = c := by
  refine ⟨((c - k0) % (p + 2)).toNat, ?_, ?_⟩
  · have := Int.emod_nonneg (c - k0) (show p + 2 ≠ 0 by omega)
    have := Int.emod_lt_of_pos (c - k0) (show 0 < p + 2 by omega)
    omega
  · have h2 := Int.emod_nonneg (c - k0) (show p + 2 ≠ 0 by omega)
    have h3 := Int.emod_lt_of_pos (c - k0) (show 0 < p + 2 by omega)
    rw [Int.tmod_eq_emod_of_nonneg (by omega)]
    have h4 : (((c - k0) % (p + 2)).toNat : Int) = (c - k0) % (p + 2) := by omega
    rw [h4]
    have h5 : (k0 + (c - k0) % (p + 2)) % (p + 2) = (k0 + (c - k0)) % (p + 2) := by rw [Int.add_emod_emod]
    rw [h5]
    have h6 : k0 + ((c : Int) - k0) = c := by omega
    rw [h6]
    exact Int.emod_eq_of_lt (by omega) hc
theorem turn_b {p : Int} (hp : 1 ≤ p) {k0 : Int} (h0 : 0 ≤ k0) (j : Nat) : 0 ≤ Int.tmod (k0 + j) (p + 2) ∧ Int.tmod (k0 + j) (p + 2) ≤ p + 1 := by
  rw [Int.tmod_eq_emod_of_nonneg (by omega)]
  have h2 := Int.emod_nonneg (k0 + j) (show p + 2 ≠ 0 by omega)
  have h3 := Int.emod_lt_of_pos (k0 + j) (show 0 < p + 2 by omega)
  omega
theorem four_set {W : World} {e : Nat} {a b c d : Value} {t : TypeId} (he : W.heap[e]? = some (.cells #[a, b, c, d] t (0, 0))) (a1 b1 c1 d1 : Value) : ((((W.setCell ⟨e, 0, none⟩ a1).setCell ⟨e, 1, none⟩ b1).setCell ⟨e, 2, none⟩ c1).setCell ⟨e, 3, none⟩ d1).heap[e]? = some (.cells #[a1, b1, c1, d1] t (0, 0)) := by
  have h1 := blk_set he 0 a1
  simp only [List.setIfInBounds_toArray, List.set_cons_zero, List.set_cons_succ] at h1
  have h2 := blk_set h1 1 b1
  simp only [List.setIfInBounds_toArray, List.set_cons_zero, List.set_cons_succ] at h2
  have h3 := blk_set h2 2 c1
  simp only [List.setIfInBounds_toArray, List.set_cons_zero, List.set_cons_succ] at h3
  have h4 := blk_set h3 3 d1
  simpa only [List.setIfInBounds_toArray, List.set_cons_zero, List.set_cons_succ] using h4
theorem four_kept (W : World) (e : Nat) (a1 b1 c1 d1 : Value) : Kept W ((((W.setCell ⟨e, 0, none⟩ a1).setCell ⟨e, 1, none⟩ b1).setCell ⟨e, 2, none⟩ c1).setCell ⟨e, 3, none⟩ d1) (fun k => k = e) := by
  have h0 := Kept.refl W (fun k => k = e)
  have h1 := Kept.setCell h0 (p := ⟨e, 0, none⟩) (.inl rfl) a1
  have h2 := Kept.setCell h1 (p := ⟨e, 1, none⟩) (.inl rfl) b1
  have h3 := Kept.setCell h2 (p := ⟨e, 2, none⟩) (.inl rfl) c1
  exact Kept.setCell h3 (p := ⟨e, 3, none⟩) (.inl rfl) d1
theorem four_world (W : World) (e : Nat) (a1 b1 c1 d1 : Value) : ((((W.setCell ⟨e, 0, none⟩ a1).setCell ⟨e, 1, none⟩ b1).setCell ⟨e, 2, none⟩ c1).setCell ⟨e, 3, none⟩ d1).os = W.os ∧ ((((W.setCell ⟨e, 0, none⟩ a1).setCell ⟨e, 1, none⟩ b1).setCell ⟨e, 2, none⟩ c1).setCell ⟨e, 3, none⟩ d1).tape = W.tape ∧ ((((W.setCell ⟨e, 0, none⟩ a1).setCell ⟨e, 1, none⟩ b1).setCell ⟨e, 2, none⟩ c1).setCell ⟨e, 3, none⟩ d1).output = W.output := by
  have h : ∀ (W : World) (p : Addr) (v : Value), (W.setCell p v).os = W.os ∧ (W.setCell p v).tape = W.tape ∧ (W.setCell p v).output = W.output := fun _ _ _ => ⟨rfl, rfl, rfl⟩
  refine ⟨?_, ?_, ?_⟩
  · rw [(h _ _ _).1, (h _ _ _).1, (h _ _ _).1, (h _ _ _).1]
  · rw [(h _ _ _).2.1, (h _ _ _).2.1, (h _ _ _).2.1, (h _ _ _).2.1]
  · rw [(h _ _ _).2.2, (h _ _ _).2.2, (h _ _ _).2.2, (h _ _ _).2.2]
theorem pick_some_f' (c : Int) (n : Int) (hn : 0 < n) (hn' : n ≤ 1004010 := by omega) : ∃ r, organonlaw18_pick.f c n = some r ∧ 0 ≤ r ∧ r < n := by
  have hb := tmod_bounds c n.toNat (by omega)
  have e : ((n.toNat : Nat) : Int) = n := by omega
  rw [e] at hb
  unfold organonlaw18_pick.f
  rw [if_neg (by omega)]
  by_cases h : Int.tmod c n < 0
  · rw [if_pos h, wrap_in (by omega) (by omega)]
    exact ⟨_, rfl, by omega, by omega⟩
  · rw [if_neg h]
    exact ⟨_, rfl, by omega, by omega⟩
set_option maxHeartbeats 32000000 in
set_option maxRecDepth 1000000 in
theorem stops_walk (X : Raw) (w : World) (hX : X.In w) (AO : Option Addr) (lo : List Int) (co : Nat) (hCO : Kd.C (Kd.int .i64) w AO lo.length lo) (hco : lo.length ≤ co) : Calls Try.prog 5 #[.agg #[.int .i64 X.x0, .int .i64 X.x1, .int .i64 X.x2, .slice X.A3 X.l3.length X.c3, .slice X.A4 X.l4.length X.c4, .int .i64 X.x5], .slice AO lo.length co] w fun e w' => e = .returned (.bool true) ∧ Below w.heap.size w w' := by
  have HB := Aside0.mk (below_alloc (Below.refl w.heap.size w) (.cells (wcells X) 37))
  have HX := Aside0.mk (heap_alloc_new w (.cells (wcells X) 37))
  have HXW := Aside0.mk hX
  clear hX
  have HCO := Aside0.mk hCO
  clear hCO hco
  go_enter Try.func5, Try.ntmps5
  go_wp2_with (first | (go_at_call 12; (with_reducible refine (awake_calls _).mono ?_); rintro e w1 ⟨rfl, hb⟩; have HB1 := Aside0.mk (HB.out.trans (hb.mono HB.out.size)); have HX1 := Aside0.mk ((hb.block _ (blk_lt HX.out)).trans HX.out); have HXI := Aside0.mk (HXW.out.below HB1.out); have c0 : w1.cell? ⟨w.heap.size, 0, none⟩ = some (.int .i64 X.x0) := (blk_cell HX1.out 0).trans rfl; have c1 : w1.cell? ⟨w.heap.size, 1, none⟩ = some (.int .i64 X.x1) := (blk_cell HX1.out 1).trans rfl; have c2 : w1.cell? ⟨w.heap.size, 2, none⟩ = some (.int .i64 X.x2) := (blk_cell HX1.out 2).trans rfl; have c3 : w1.cell? ⟨w.heap.size, 3, none⟩ = some (.slice X.A3 X.l3.length X.c3) := (blk_cell HX1.out 3).trans rfl; have c4 : w1.cell? ⟨w.heap.size, 4, none⟩ = some (.slice X.A4 X.l4.length X.c4) := (blk_cell HX1.out 4).trans rfl; have c5 : w1.cell? ⟨w.heap.size, 5, none⟩ = some (.int .i64 X.x5) := (blk_cell HX1.out 5).trans rfl; clear hb) | (go_at_call 16; (with_reducible refine (l_plain X HXI.out).mono ?_); rintro e w2 ⟨pw, pj, pr, A, c, xs, rfl, hp, hl, hj, hr, hb⟩; have HP := Aside0.mk hp; have HLN := Aside0.mk hl; have HJS := Aside0.mk hj; have HB2 := Aside0.mk (below_alloc (HB1.out.trans (hb.mono HB1.out.size)) (.cells #[.int .i64 pw, .int .i64 pj, .int .i64 pr] 23)); have HX2 := Aside0.mk (blk_alloc ((hb.block _ (blk_lt HX1.out)).trans HX1.out) (.cells #[.int .i64 pw, .int .i64 pj, .int .i64 pr] 23)); have HQ2 := Aside0.mk (heap_alloc_new w2 (.cells #[.int .i64 pw, .int .i64 pj, .int .i64 pr] 23)); have HV2 := Aside0.mk (Own.of rfl (Kd.R_alloc hr (.cells #[.int .i64 pw, .int .i64 pj, .int .i64 pr] 23))); have HW1 := Aside0.mk (Nat.le_trans HB1.out.size hb.size); have HV0 := Aside0.mk (fun k (hk : some k = (Value.slice A xs.length c).ownBlock) => Nat.le_trans HB1.out.size (Kd.R_base hr k hk.symm)); clear c0 c1 c2 c3 c4 c5; clear hp hl hj hr hb) | (go_at_call 15; (with_reducible refine (l_new (b1 := w.heap.size) (b4 := w2.heap.size) X A c HB2.out HP.out HLN.out HJS.out HX2.out (Nat.le_refl _) HQ2.out HW1.out HV2.out HV0.out).mono ?_); rintro e w3 ⟨g, rfl, hL, hb⟩; have HL := Aside0.mk hL; have c0 : w3.cell? ⟨w.heap.size, 0, none⟩ = some (.int .i64 X.x0) := (blk_cell HL.out.wb 0).trans rfl; have c1 : w3.cell? ⟨w.heap.size, 1, none⟩ = some (.int .i64 X.x1) := (blk_cell HL.out.wb 1).trans rfl; have c2 : w3.cell? ⟨w.heap.size, 2, none⟩ = some (.int .i64 X.x2) := (blk_cell HL.out.wb 2).trans rfl; have c3 : w3.cell? ⟨w.heap.size, 3, none⟩ = some (.slice X.A3 X.l3.length X.c3) := (blk_cell HL.out.wb 3).trans rfl; have c4 : w3.cell? ⟨w.heap.size, 4, none⟩ = some (.slice X.A4 X.l4.length X.c4) := (blk_cell HL.out.wb 4).trans rfl; have c5 : w3.cell? ⟨w.heap.size, 5, none⟩ = some (.int .i64 X.x5) := (blk_cell HL.out.wb 5).trans rfl; have d0 : w3.cell? ⟨w2.heap.size, 0, none⟩ = some (.int .i64 pw) := (blk_cell HL.out.pb 0).trans rfl; have d1 : w3.cell? ⟨w2.heap.size, 1, none⟩ = some (.int .i64 pj) := (blk_cell HL.out.pb 1).trans rfl; have d2 : w3.cell? ⟨w2.heap.size, 2, none⟩ = some (.int .i64 pr) := (blk_cell HL.out.pb 2).trans rfl; clear hL hb HX HX1 HX2 HQ2 HV2 HV0))
  obtain ⟨bd, hbd⟩ : ∃ bd, boundOf (newM pw pj pr xs pw.toNat) = bd := ⟨_, rfl⟩
  have hbp : 0 < bd ∧ bd ≤ 1004010 := by
    have h1 := bound_le HL.out.run.inv.ok
    have h2 := HL.out.run.inv.pot
    have h3 := rem_pos HL.out.run.inv.ok (m := newM pw pj pr xs pw.toNat) rfl
    have h4 : (newM pw pj pr xs pw.toNat).picks = 0 := rfl
    omega
  obtain ⟨rr, hrr, hr0, hr1⟩ := pick_some_f' X.x5 bd hbp.1
  have HRR0 := Aside0.mk hrr
  have HR0 := Aside0.mk (show 0 ≤ rr ∧ rr < bd from ⟨hr0, hr1⟩)
  have hpw := HP.out.1
  clear c0 c1 c2 c3 c4 c5 d0 d1 d2 HB HB1 HB2 hbp hrr hr0 hr1
  go_loopw [11] (fun i wr => ∃ (k : Nat) (m : Mach), i = .int .i64 k ∧ Law w wr (fun _ => False) X w.heap.size w2.heap.size pw pj pr (.slice A xs.length c) xs g m ∧ m.stopped = false ∧ m.picks = k ∧ boundOf m = bd ∧ (k : Int) ≤ rr) (fun i _ => 1004011 - (intOf i).toNat)
  case atStart => exact ⟨0, _, rfl, HL.out, rfl, rfl, hbd, by have := HR0.out; omega⟩
  case round =>
    obtain ⟨k, m, rfl, hL, hs, hk, hb, hkr⟩ := hrel
    clear HL
    have HL := Aside0.mk (hL.pass (below_drew (Below.refl _ _)))
    have HS := Aside0.mk hs
    have HK := Aside0.mk hk
    have HBD := Aside0.mk hb
    have hbl := bound_le hL.run.inv.ok
    have hpos := HR0.out
    have HD := Aside0.mk (run_live hL.run.inv hs (by omega))
    have HINV := Aside0.mk hL.run.inv
    have HNE := Aside0.mk (progress hL.run.inv HD.out)
    have HSTEP := Aside0.mk (fun r : Int => pick_keep hL.run.inv HNE.out r)
    have HI := Aside0.mk (show (0 : Int) ≤ (k : Int) by omega)
    have hkb : (k : Int) ≤ 1004010 := by omega
    have HRR : Aside0 (organonlaw18_pick.f X.x5 (boundOf m) = some rr) := Aside0.mk (by rw [hb]; exact HRR0.out)
    by_cases hlt : (k : Int) < rr
    · have q0 : decide ((k : Int) < rr) = true := decide_eq_true hlt
      have q1 := eq_true hlt
      have HLT := Aside0.mk hlt
      clear hL hs hk hb hkr hbl hpos hlt
      go_wp2
      refine start_ (n := 8) (S := fun w' => w'.heap[w.heap.size]? = some (.cells (wcells X) 37 (0, 0)) ∧ w'.heap[w2.heap.size]? = some (.cells #[.int .i64 pw, .int .i64 pj, .int .i64 pr] 23 (0, 0))) (ds := []) #[false, false, false, false, false, false, false, false] (by kernel_rfl) rfl rfl ⟨HL.out.wb, HL.out.pb⟩ (fun hHeld => ?_)
      generalize wr.drew = Wd at HL hHeld ⊢
      refine pure_ (i := 0) (N := (some 51)) (v := ?_) (a' := ?_) #[true, false, false, false, false, false, false, false] rfl rfl (by kernel_rfl) (fun _ _ _ h => h) (Or.inl ⟨by rfl, ?_⟩) ?_ ?_
      rotate_left
      · intro w'
        go_simp
        with_reducible rfl
      rotate_left
      · simp only [Act.put, List.setIfInBounds_toArray, List.set_cons_zero, List.set_cons_succ, i64_w, i32_w]
        rfl
      refine pure_ (i := 1) (N := (some 52)) (v := ?_) (a' := ?_) #[true, true, false, false, false, false, false, false] rfl rfl (by kernel_rfl) (fun _ _ _ h => h) (Or.inl ⟨by rfl, ?_⟩) ?_ ?_
      rotate_left
      · intro w'
        go_simp
        with_reducible rfl
      rotate_left
      · simp only [Act.put, List.setIfInBounds_toArray, List.set_cons_zero, List.set_cons_succ, i64_w, i32_w]
        rfl
      refine take_ (i := 2) (N := (some 53)) (v := ?_) (a' := ?_) #[true, true, true, false, false, false, false, false] rfl rfl (by kernel_rfl) (fun _ _ _ h => h) (Or.inl ⟨by rfl, ?_⟩) hHeld ?_ ?_
      rotate_left
      · rintro w' ⟨s0, s1⟩
        have t5 : w'.cell? ⟨w.heap.size, 5, none⟩ = some (.int .i64 X.x5) := (blk_cell s0 5).trans rfl
        have t0_ : w'.cell? ⟨w2.heap.size, 0, none⟩ = some (.int .i64 pw) := (blk_cell s1 0).trans rfl
        have t1_ : w'.cell? ⟨w2.heap.size, 1, none⟩ = some (.int .i64 pj) := (blk_cell s1 1).trans rfl
        have t2_ : w'.cell? ⟨w2.heap.size, 2, none⟩ = some (.int .i64 pr) := (blk_cell s1 2).trans rfl
        go_simp
        with_reducible rfl
      rotate_left
      · simp only [Act.put, List.setIfInBounds_toArray, List.set_cons_zero, List.set_cons_succ, i64_w, i32_w]
        rfl
      refine take_ (i := 3) (N := (some 54)) (v := ?_) (a' := ?_) #[true, true, true, true, false, false, false, false] rfl rfl (by kernel_rfl) (fun _ _ _ h => h) (Or.inl ⟨by rfl, ?_⟩) hHeld ?_ ?_
      rotate_left
      · rintro w' ⟨s0, s1⟩
        have t5 : w'.cell? ⟨w.heap.size, 5, none⟩ = some (.int .i64 X.x5) := (blk_cell s0 5).trans rfl
        have t0_ : w'.cell? ⟨w2.heap.size, 0, none⟩ = some (.int .i64 pw) := (blk_cell s1 0).trans rfl
        have t1_ : w'.cell? ⟨w2.heap.size, 1, none⟩ = some (.int .i64 pj) := (blk_cell s1 1).trans rfl
        have t2_ : w'.cell? ⟨w2.heap.size, 2, none⟩ = some (.int .i64 pr) := (blk_cell s1 2).trans rfl
        go_simp
        with_reducible rfl
      rotate_left
      · simp only [Act.put, List.setIfInBounds_toArray, List.set_cons_zero, List.set_cons_succ, i64_w, i32_w]
        rfl
      refine pure_ (i := 4) (N := (some 55)) (v := ?_) (a' := ?_) #[true, true, true, true, true, false, false, false] rfl rfl (by kernel_rfl) (fun _ _ _ h => h) (Or.inl ⟨by rfl, ?_⟩) ?_ ?_
      rotate_left
      · intro w'
        go_simp
        with_reducible rfl
      rotate_left
      · simp only [Act.put, List.setIfInBounds_toArray, List.set_cons_zero, List.set_cons_succ, i64_w, i32_w]
        rfl
      refine one_ (i := 5) (N := (some 56)) #[true, true, true, true, true, true, false, false] rfl rfl (by kernel_rfl) (by decide) (fun K hK => ?_)
      refine goes_ Try.func25 (by kernel_rfl) rfl #[.agg #[.int .i64 pw, .int .i64 pj, .int .i64 pr], .slice A xs.length c] (by rfl) rfl rfl (by simp only [List.map_toArray, List.map_cons, List.map_nil]; rfl) ?_
      refine (l_bound HL.out HP.out HLN.out HJS.out).mono ?_
      rintro e wq1 ⟨rfl, hL, hb⟩
      refine ⟨_, rfl, ?_⟩
      clear HL
      have HL := Aside0.mk hL
      clear hL hb
      refine hK.out _ _ ⟨HL.out.wb, HL.out.pb⟩ (fun hHeld => ?_)
      clear hK K
      refine norm_ (a' := ?_) ?_ ?_
      rotate_left
      · show Act.put _ (some 56) _ = _
        simp only [Act.put, List.setIfInBounds_toArray, List.set_cons_zero, List.set_cons_succ, i64_w, i32_w]
        rfl
      refine one_ (i := 6) (N := (some 57)) #[true, true, true, true, true, true, true, false] rfl rfl (by kernel_rfl) (by decide) (fun K hK => ?_)
      refine goes_ Try.func28 (by kernel_rfl) rfl #[.int .i64 X.x5, .int .i64 (boundOf m)] (by rfl) rfl rfl (by simp only [List.map_toArray, List.map_cons, List.map_nil]; rfl) ?_
      refine (organonlaw18_pick.calls X.x5 (boundOf m) rr _ HRR.out).mono ?_
      rintro e wq2 ⟨rfl, hdn⟩
      refine ⟨_, rfl, ?_⟩
      have hl_ := HL.out.pass (below_drawn (Below.refl _ _) hdn)
      clear HL
      have HL := Aside0.mk hl_
      clear hl_ hdn
      refine hK.out _ _ ⟨HL.out.wb, HL.out.pb⟩ (fun hHeld => ?_)
      clear hK K
      refine norm_ (a' := ?_) ?_ ?_
      rotate_left
      · show Act.put _ (some 57) _ = _
        simp only [Act.put, List.setIfInBounds_toArray, List.set_cons_zero, List.set_cons_succ, i64_w, i32_w]
        rfl
      refine pure_ (i := 7) (N := (some 58)) (v := ?_) (a' := ?_) #[true, true, true, true, true, true, true, true] rfl rfl (by kernel_rfl) (fun _ _ _ h => h) (Or.inl ⟨by rfl, ?_⟩) ?_ ?_
      rotate_left
      · intro w'
        go_simp
        with_reducible rfl
      rotate_left
      · simp only [Act.put, List.setIfInBounds_toArray, List.set_cons_zero, List.set_cons_succ, i64_w, i32_w]
        rfl
      refine done_ (by kernel_rfl) ?_
      have c0 : wq2.cell? ⟨w.heap.size, 0, none⟩ = some (.int .i64 X.x0) := (blk_cell HL.out.wb 0).trans rfl
      have c1 : wq2.cell? ⟨w.heap.size, 1, none⟩ = some (.int .i64 X.x1) := (blk_cell HL.out.wb 1).trans rfl
      have c2 : wq2.cell? ⟨w.heap.size, 2, none⟩ = some (.int .i64 X.x2) := (blk_cell HL.out.wb 2).trans rfl
      have c3 : wq2.cell? ⟨w.heap.size, 3, none⟩ = some (.slice X.A3 X.l3.length X.c3) := (blk_cell HL.out.wb 3).trans rfl
      have c4 : wq2.cell? ⟨w.heap.size, 4, none⟩ = some (.slice X.A4 X.l4.length X.c4) := (blk_cell HL.out.wb 4).trans rfl
      have c5 : wq2.cell? ⟨w.heap.size, 5, none⟩ = some (.int .i64 X.x5) := (blk_cell HL.out.wb 5).trans rfl
      go_wp2_with (first | (go_at_call 20; (with_reducible refine (l_at HL.out HXW.out _ HI.out).mono ?_); rintro e we ⟨r, rfl, hL, hb⟩; clear HL; have HL := Aside0.mk hL; clear c0 c1 c2 c3 c4 c5; clear hL hb) | (go_at_call 19; (with_reducible refine (l_pickv HL.out _ HNE.out).mono ?_); rintro e wf ⟨z0, z1, z2, z3, rfl, hz, hL, hh⟩; have hl_ := hL.alloc (.cells #[.int .i64 z0, .int .i64 z1, .int .i64 z2, .int .i64 z3] 42); have HSR := Aside0.mk (HSTEP.out r); clear HL HSTEP; have HL := Aside0.mk hl_; clear hL hh hl_ hz))
      go_roundw
      case rel => exact ⟨k + 1, _, by go_num, HL.out, HSR.out.2.1.trans HS.out, by rw [HSR.out.1, HK.out]; rfl, HSR.out.2.2.trans HBD.out, by have := HLT.out; omega⟩
      case measure => simp [intOf]; omega
    · have q0 : decide ((k : Int) < rr) = false := decide_eq_false hlt
      have q1 := eq_false hlt
      have HCS := Aside0.mk (show canStop m = true by simp [canStop, hs, HD.out])
      obtain ⟨m1, hm1⟩ : ∃ m1, ({ m with stopped := true } : Mach) = m1 := ⟨_, rfl⟩
      have HM1 := Aside0.mk hm1
      have HCN : Aside0 (canStop m1 = false) := Aside0.mk (by rw [← hm1]; simp [canStop])
      obtain ⟨G, hG⟩ : ∃ G, m1.got.length = G := ⟨_, rfl⟩
      have HG := Aside0.mk hG
      have HS1 : Aside0 (m1.stopped = true) := Aside0.mk (by rw [← hm1])
      clear hL hs hk hb hkr hbl hpos hlt hm1 hG HSTEP HNE hkb
      go_wp2
      refine start_ (n := 8) (S := fun w' => w'.heap[w.heap.size]? = some (.cells (wcells X) 37 (0, 0)) ∧ w'.heap[w2.heap.size]? = some (.cells #[.int .i64 pw, .int .i64 pj, .int .i64 pr] 23 (0, 0))) (ds := []) #[false, false, false, false, false, false, false, false] (by kernel_rfl) rfl rfl ⟨HL.out.wb, HL.out.pb⟩ (fun hHeld => ?_)
      generalize wr.drew = Wd at HL hHeld ⊢
      refine pure_ (i := 0) (N := (some 51)) (v := ?_) (a' := ?_) #[true, false, false, false, false, false, false, false] rfl rfl (by kernel_rfl) (fun _ _ _ h => h) (Or.inl ⟨by rfl, ?_⟩) ?_ ?_
      rotate_left
      · intro w'
        go_simp
        with_reducible rfl
      rotate_left
      · simp only [Act.put, List.setIfInBounds_toArray, List.set_cons_zero, List.set_cons_succ, i64_w, i32_w]
        rfl
      refine pure_ (i := 1) (N := (some 52)) (v := ?_) (a' := ?_) #[true, true, false, false, false, false, false, false] rfl rfl (by kernel_rfl) (fun _ _ _ h => h) (Or.inl ⟨by rfl, ?_⟩) ?_ ?_
      rotate_left
      · intro w'
        go_simp
        with_reducible rfl
      rotate_left
      · simp only [Act.put, List.setIfInBounds_toArray, List.set_cons_zero, List.set_cons_succ, i64_w, i32_w]
        rfl
      refine take_ (i := 2) (N := (some 53)) (v := ?_) (a' := ?_) #[true, true, true, false, false, false, false, false] rfl rfl (by kernel_rfl) (fun _ _ _ h => h) (Or.inl ⟨by rfl, ?_⟩) hHeld ?_ ?_
      rotate_left
      · rintro w' ⟨s0, s1⟩
        have t5 : w'.cell? ⟨w.heap.size, 5, none⟩ = some (.int .i64 X.x5) := (blk_cell s0 5).trans rfl
        have t0_ : w'.cell? ⟨w2.heap.size, 0, none⟩ = some (.int .i64 pw) := (blk_cell s1 0).trans rfl
        have t1_ : w'.cell? ⟨w2.heap.size, 1, none⟩ = some (.int .i64 pj) := (blk_cell s1 1).trans rfl
        have t2_ : w'.cell? ⟨w2.heap.size, 2, none⟩ = some (.int .i64 pr) := (blk_cell s1 2).trans rfl
        go_simp
        with_reducible rfl
      rotate_left
      · simp only [Act.put, List.setIfInBounds_toArray, List.set_cons_zero, List.set_cons_succ, i64_w, i32_w]
        rfl
      refine take_ (i := 3) (N := (some 54)) (v := ?_) (a' := ?_) #[true, true, true, true, false, false, false, false] rfl rfl (by kernel_rfl) (fun _ _ _ h => h) (Or.inl ⟨by rfl, ?_⟩) hHeld ?_ ?_
      rotate_left
      · rintro w' ⟨s0, s1⟩
        have t5 : w'.cell? ⟨w.heap.size, 5, none⟩ = some (.int .i64 X.x5) := (blk_cell s0 5).trans rfl
        have t0_ : w'.cell? ⟨w2.heap.size, 0, none⟩ = some (.int .i64 pw) := (blk_cell s1 0).trans rfl
        have t1_ : w'.cell? ⟨w2.heap.size, 1, none⟩ = some (.int .i64 pj) := (blk_cell s1 1).trans rfl
        have t2_ : w'.cell? ⟨w2.heap.size, 2, none⟩ = some (.int .i64 pr) := (blk_cell s1 2).trans rfl
        go_simp
        with_reducible rfl
      rotate_left
      · simp only [Act.put, List.setIfInBounds_toArray, List.set_cons_zero, List.set_cons_succ, i64_w, i32_w]
        rfl
      refine pure_ (i := 4) (N := (some 55)) (v := ?_) (a' := ?_) #[true, true, true, true, true, false, false, false] rfl rfl (by kernel_rfl) (fun _ _ _ h => h) (Or.inl ⟨by rfl, ?_⟩) ?_ ?_
      rotate_left
      · intro w'
        go_simp
        with_reducible rfl
      rotate_left
      · simp only [Act.put, List.setIfInBounds_toArray, List.set_cons_zero, List.set_cons_succ, i64_w, i32_w]
        rfl
      refine one_ (i := 5) (N := (some 56)) #[true, true, true, true, true, true, false, false] rfl rfl (by kernel_rfl) (by decide) (fun K hK => ?_)
      refine goes_ Try.func25 (by kernel_rfl) rfl #[.agg #[.int .i64 pw, .int .i64 pj, .int .i64 pr], .slice A xs.length c] (by rfl) rfl rfl (by simp only [List.map_toArray, List.map_cons, List.map_nil]; rfl) ?_
      refine (l_bound HL.out HP.out HLN.out HJS.out).mono ?_
      rintro e wq1 ⟨rfl, hL, hb⟩
      refine ⟨_, rfl, ?_⟩
      clear HL
      have HL := Aside0.mk hL
      clear hL hb
      refine hK.out _ _ ⟨HL.out.wb, HL.out.pb⟩ (fun hHeld => ?_)
      clear hK K
      refine norm_ (a' := ?_) ?_ ?_
      rotate_left
      · show Act.put _ (some 56) _ = _
        simp only [Act.put, List.setIfInBounds_toArray, List.set_cons_zero, List.set_cons_succ, i64_w, i32_w]
        rfl
      refine one_ (i := 6) (N := (some 57)) #[true, true, true, true, true, true, true, false] rfl rfl (by kernel_rfl) (by decide) (fun K hK => ?_)
      refine goes_ Try.func28 (by kernel_rfl) rfl #[.int .i64 X.x5, .int .i64 (boundOf m)] (by rfl) rfl rfl (by simp only [List.map_toArray, List.map_cons, List.map_nil]; rfl) ?_
      refine (organonlaw18_pick.calls X.x5 (boundOf m) rr _ HRR.out).mono ?_
      rintro e wq2 ⟨rfl, hdn⟩
      refine ⟨_, rfl, ?_⟩
      have hl_ := HL.out.pass (below_drawn (Below.refl _ _) hdn)
      clear HL
      have HL := Aside0.mk hl_
      clear hl_ hdn
      refine hK.out _ _ ⟨HL.out.wb, HL.out.pb⟩ (fun hHeld => ?_)
      clear hK K
      refine norm_ (a' := ?_) ?_ ?_
      rotate_left
      · show Act.put _ (some 57) _ = _
        simp only [Act.put, List.setIfInBounds_toArray, List.set_cons_zero, List.set_cons_succ, i64_w, i32_w]
        rfl
      refine pure_ (i := 7) (N := (some 58)) (v := ?_) (a' := ?_) #[true, true, true, true, true, true, true, true] rfl rfl (by kernel_rfl) (fun _ _ _ h => h) (Or.inl ⟨by rfl, ?_⟩) ?_ ?_
      rotate_left
      · intro w'
        go_simp
        with_reducible rfl
      rotate_left
      · simp only [Act.put, List.setIfInBounds_toArray, List.set_cons_zero, List.set_cons_succ, i64_w, i32_w]
        rfl
      refine done_ (by kernel_rfl) ?_
      go_wp2_with (first | (go_at_call 18; first | ((with_reducible refine (l_cancel HL.out HCS.out).mono ?_); rintro e wg ⟨rfl, hL, hh⟩; rw [HM1.out] at hL; clear HL; have HL := Aside0.mk hL; clear hL hh) | ((with_reducible refine (l_cancel_no HL.out HCN.out).mono ?_); rintro e wh ⟨rfl, hL, hb⟩; clear HL; have HL := Aside0.mk hL; clear hL hb)) | (go_at_call 26; (with_reducible refine (l_got HL.out).mono ?_); rintro e wi ⟨A2, c2, rfl, ho, hL, hb⟩; rw [HG.out]; clear HL; have HL := Aside0.mk hL; clear ho hL hb))
      go_loopw [17] (fun i wr => ∃ (k : Nat) (m : Mach), i = .int .i64 k ∧ (k : Int) ≤ pw + 2 ∧ Law w wr (fun _ => False) X w.heap.size w2.heap.size pw pj pr (.slice A xs.length c) xs g m ∧ m.stopped = true ∧ m.got.length = G ∧ al m ≤ pw + 2 - k) (fun i _ => (pw + 2).toNat - (intOf i).toNat)
      case atStart => exact ⟨0, m1, rfl, by omega, HL.out, HS1.out, HG.out, by have h1 := al_le (m := m1); have h2 := HL.out.run.inv.ok.nw; have h3 := HL.out.eq.2; simp; omega⟩
      case round =>
        obtain ⟨k, m, rfl, hk, hL, hs, hg2, hal⟩ := hrel
        clear HL HS HCN HM1 HCS HG HS1 HK HBD HD HINV HI
        have HL := Aside0.mk hL
        have HS := Aside0.mk hs
        have HG2 := Aside0.mk hg2
        have HAL := Aside0.mk hal
        have HWL := Aside0.mk (show (m.workers.length : Int) = pw by rw [hL.run.inv.ok.nw, hL.eq.2])
        have d0 : wr.cell? ⟨w2.heap.size, 0, none⟩ = some (.int .i64 pw) := (blk_cell HL.out.pb 0).trans rfl
        have d1 : wr.cell? ⟨w2.heap.size, 1, none⟩ = some (.int .i64 pj) := (blk_cell HL.out.pb 1).trans rfl
        have d2 : wr.cell? ⟨w2.heap.size, 2, none⟩ = some (.int .i64 pr) := (blk_cell HL.out.pb 2).trans rfl
        by_cases hlt : (k : Int) ≤ pw + 1
        · have p0 : decide ((k : Int) ≤ pw + 1) = true := decide_eq_true hlt
          have p1 := eq_true hlt
          have HKK := Aside0.mk hlt
          have hk12 : (k : Int) ≤ 9 := by omega
          by_cases hlo : k < lo.length
          · have r0 : decide ((k : Int) < (lo.length : Int)) = true := decide_eq_true (by omega)
            have r1 := eq_true (show (k : Int) < (lo.length : Int) by omega)
            obtain ⟨ad, ead, hyo⟩ := Kd.at_int (Kd.C_below HCO.out (hL.pass (below_drew (Below.refl _ _))).run.bel) k (Int.natCast_nonneg _) (by omega)
            subst ead
            rw [Int.toNat_natCast] at hyo
            obtain ⟨v, hv⟩ : ∃ v, rd lo k = v := ⟨_, rfl⟩
            rw [hv] at hyo
            have HYO := Aside0.mk hyo
            obtain ⟨r9, hr9, hr90, hr91⟩ := pick_some_f' v (pw + 2) (by omega) (by omega)
            have HRK := Aside0.mk hr9
            have HK0 := Aside0.mk (show 0 ≤ r9 ∧ r9 < pw + 2 from ⟨hr90, hr91⟩)
            have HW2 := Aside0.mk (IntWalk.i64_in (pw + 2) ⟨by omega, by omega⟩)
            clear hL hs hg2 hal hk hlt hlo hyo hv hr9 hr90 hr91
            go_wp2
            clear d0 d1 d2 p0 p1 r0
            have hl_ := HL.out.pass (below_drew (Below.refl _ _))
            clear HL
            have HL := Aside0.mk hl_
            clear hl_
            have hw2 := HW2.out
            refine start_ (n := 9) (S := fun w' => w'.cell? (ad.add k) = some (.int .i64 v) ∧ w'.heap[w2.heap.size]? = some (.cells #[.int .i64 pw, .int .i64 pj, .int .i64 pr] 23 (0, 0))) (ds := []) #[false, false, false, false, false, false, false, false, false] (by kernel_rfl) rfl rfl ⟨HYO.out, HL.out.pb⟩ (fun hHeld => ?_)
            generalize wr.drew = Wd at HL hHeld HYO ⊢
            refine pure_ (i := 0) (N := (some 95)) (v := ?_) (a' := ?_) #[true, false, false, false, false, false, false, false, false] rfl rfl (by kernel_rfl) (fun _ _ _ h => h) (Or.inl ⟨by rfl, ?_⟩) ?_ ?_
            rotate_left
            · intro w'
              go_simp
              with_reducible rfl
            rotate_left
            · simp only [Act.put, List.setIfInBounds_toArray, List.set_cons_zero, List.set_cons_succ, i64_w, i32_w]
              rfl
            refine pure_ (i := 1) (N := (some 96)) (v := ?_) (a' := ?_) #[true, true, false, false, false, false, false, false, false] rfl rfl (by kernel_rfl) (fun _ _ _ h => h) (Or.inl ⟨by rfl, ?_⟩) ?_ ?_
            rotate_left
            · intro w'
              go_simp
              with_reducible rfl
            rotate_left
            · simp only [Act.put, List.setIfInBounds_toArray, List.set_cons_zero, List.set_cons_succ, i64_w, i32_w]
              rfl
            refine pure_ (i := 2) (N := (some 97)) (v := ?_) (a' := ?_) #[true, true, true, false, false, false, false, false, false] rfl rfl (by kernel_rfl) (fun _ _ _ h => h) (Or.inl ⟨by rfl, ?_⟩) ?_ ?_
            rotate_left
            · intro w'
              go_simp
              with_reducible rfl
            rotate_left
            · simp only [Act.put, List.setIfInBounds_toArray, List.set_cons_zero, List.set_cons_succ, i64_w, i32_w]
              rfl
            refine take_ (i := 3) (N := (some 98)) (v := ?_) (a' := ?_) #[true, true, true, true, false, false, false, false, false] rfl rfl (by kernel_rfl) (fun _ _ _ h => h) (Or.inl ⟨by rfl, ?_⟩) hHeld ?_ ?_
            rotate_left
            · rintro w' ⟨s0, s1⟩
              have t9_ := s0
              have t0_ : w'.cell? ⟨w2.heap.size, 0, none⟩ = some (.int .i64 pw) := (blk_cell s1 0).trans rfl
              go_simp
              with_reducible rfl
            rotate_left
            · simp only [Act.put, List.setIfInBounds_toArray, List.set_cons_zero, List.set_cons_succ, i64_w, i32_w]
              rfl
            refine pure_ (i := 4) (N := (some 99)) (v := ?_) (a' := ?_) #[true, true, true, true, true, false, false, false, false] rfl rfl (by kernel_rfl) (fun _ _ _ h => h) (Or.inl ⟨by rfl, ?_⟩) ?_ ?_
            rotate_left
            · intro w'
              go_simp
              with_reducible rfl
            rotate_left
            · simp only [Act.put, List.setIfInBounds_toArray, List.set_cons_zero, List.set_cons_succ, i64_w, i32_w]
              rfl
            refine take_ (i := 5) (N := (some 100)) (v := ?_) (a' := ?_) #[true, true, true, true, true, true, false, false, false] rfl rfl (by kernel_rfl) (fun _ _ _ h => h) (Or.inl ⟨by rfl, ?_⟩) hHeld ?_ ?_
            rotate_left
            · rintro w' ⟨s0, s1⟩
              have t9_ := s0
              have t0_ : w'.cell? ⟨w2.heap.size, 0, none⟩ = some (.int .i64 pw) := (blk_cell s1 0).trans rfl
              go_simp
              with_reducible rfl
            rotate_left
            · simp only [Act.put, List.setIfInBounds_toArray, List.set_cons_zero, List.set_cons_succ, i64_w, i32_w]
              rfl
            refine pure_ (i := 6) (N := (some 101)) (v := ?_) (a' := ?_) #[true, true, true, true, true, true, true, false, false] rfl rfl (by kernel_rfl) (fun _ _ _ h => h) (Or.inl ⟨by rfl, ?_⟩) ?_ ?_
            rotate_left
            · intro w'
              go_simp
              with_reducible rfl
            rotate_left
            · simp only [Act.put, List.setIfInBounds_toArray, List.set_cons_zero, List.set_cons_succ, i64_w, i32_w]
              rfl
            refine one_ (i := 7) (N := (some 102)) #[true, true, true, true, true, true, true, true, false] rfl rfl (by kernel_rfl) (by decide) (fun K hK => ?_)
            refine goes_ Try.func28 (by kernel_rfl) rfl #[.int .i64 v, .int .i64 (pw + 2)] (by rfl) rfl rfl (by simp only [List.map_toArray, List.map_cons, List.map_nil]; rfl) ?_
            refine (organonlaw18_pick.calls v (pw + 2) r9 _ HRK.out).mono ?_
            rintro e wq3 ⟨rfl, hdn⟩
            refine ⟨_, rfl, ?_⟩
            have hl_ := HL.out.pass (below_drawn (Below.refl _ _) hdn)
            clear HL
            have HL := Aside0.mk hl_
            refine hK.out _ _ ⟨pw_cell_below (below_drawn (Below.refl _ _) hdn) HYO.out, HL.out.pb⟩ (fun hHeld => ?_)
            clear hl_ hdn
            clear hK K
            refine norm_ (a' := ?_) ?_ ?_
            rotate_left
            · show Act.put _ (some 102) _ = _
              simp only [Act.put, List.setIfInBounds_toArray, List.set_cons_zero, List.set_cons_succ, i64_w, i32_w]
              rfl
            refine pure_ (i := 8) (N := (some 18)) (v := ?_) (a' := ?_) #[true, true, true, true, true, true, true, true, true] rfl rfl (by kernel_rfl) (fun _ _ _ h => h) (Or.inl ⟨by rfl, ?_⟩) ?_ ?_
            rotate_left
            · intro w'
              go_simp
              with_reducible rfl
            rotate_left
            · simp only [Act.put, List.setIfInBounds_toArray, List.set_cons_zero, List.set_cons_succ, i64_w, i32_w]
              rfl
            refine done_ (by kernel_rfl) ?_
            clear hw2 r1
            have hr9b : 0 ≤ r9 ∧ r9 ≤ 9 := ⟨HK0.out.1, by have := HK0.out.2; omega⟩
            go_wp2
            go_loopw [19] (fun n wr => ∃ j : Nat, n = .int .i64 j ∧ (j : Int) ≤ pw + 2 ∧ Law w wr (fun _ => False) X w.heap.size w2.heap.size pw pj pr (.slice A xs.length c) xs g m ∧ ∀ j' : Nat, j' < j → (placeOf m (Int.tmod (r9 + j') (pw + 2))).f0 = 0) (fun n _ => (pw + 2).toNat - (intOf n).toNat)
            case atStart => exact ⟨0, rfl, by omega, HL.out, fun j' hj' => by omega⟩
            case round =>
              obtain ⟨j, rfl, hj, hL, hdn⟩ := hrel
              clear HL
              have HL := Aside0.mk hL
              have HDN := Aside0.mk hdn
              have d0 : wr.cell? ⟨w2.heap.size, 0, none⟩ = some (.int .i64 pw) := (blk_cell HL.out.pb 0).trans rfl
              have d1 : wr.cell? ⟨w2.heap.size, 1, none⟩ = some (.int .i64 pj) := (blk_cell HL.out.pb 1).trans rfl
              have d2 : wr.cell? ⟨w2.heap.size, 2, none⟩ = some (.int .i64 pr) := (blk_cell HL.out.pb 2).trans rfl
              by_cases hlt : (j : Int) ≤ pw + 1
              · have p0 : decide ((j : Int) ≤ pw + 1) = true := decide_eq_true hlt
                have p1 := eq_true hlt
                have htb := turn_b hpw.1 HK0.out.1 j
                obtain ⟨cc, hcc⟩ : ∃ cc, Int.tmod (r9 + j) (pw + 2) = cc := ⟨_, rfl⟩
                rw [hcc] at htb
                have HCC := Aside0.mk hcc
                have hk0_ := HK0.out
                have hpw_ := hpw
                have HCW : Aside0 ((r9 + j) % (pw + 2) = cc) := Aside0.mk (by rw [← Int.tmod_eq_emod_of_nonneg (by omega)]; exact hcc)
                clear hcc hk0_ hpw_
                have hj9 : (j : Int) ≤ 9 := by omega
                have HLT := Aside0.mk hlt
                have hk0 := HK0.out
                have hz0_ : ¬ (pw + 2 = 0) := by omega
                have hz1_ : (pw + 2 == 0) = false := beq_eq_false_iff_ne.mpr hz0_
                have HPR := Aside0.mk (show 0 ≤ cc ∧ cc ≤ m.workers.length + 1 from ⟨htb.1, by have := HWL.out; omega⟩)
                obtain ⟨y0, y1, y2, hy⟩ : ∃ y0 y1 y2, placeOf m cc = ⟨y0, y1, y2⟩ := ⟨_, _, _, rfl⟩
                have HPC := Aside0.mk hy
                have hyf : (placeOf m cc).f0 = y0 := by rw [hy]
                by_cases hy0 : y0 = 0
                · have t0 : (y0 == 0) = true := beq_iff_eq.mpr hy0
                  have t1 := eq_true hy0
                  have HYZ := Aside0.mk hy0
                  clear hL hdn hlt hy hyf hy0 hj hk0
                  have hcw := HCW.out
                  go_wp2_with (first | (go_at_call 29; ((with_reducible refine (l_placev HL.out _ HPR.out).mono ?_); rintro e wj ⟨z0, z1, z2, rfl, hz, hL, hb⟩; rw [HPC.out] at hz; obtain ⟨rfl, rfl, rfl⟩ := S59.mk.inj hz; have hl_ := hL.alloc (.cells #[.int .i64 y0, .int .i64 y1, .int .i64 y2] 59); clear HL; have HL := Aside0.mk hl_; clear hL hb hl_ hz)))
                  clear hcw
                  go_roundw
                  case rel => exact ⟨j + 1, by go_num, by have := HLT.out; omega, HL.out, fun j' hj' => by
                    by_cases e : j' = j
                    · subst e; rw [HCC.out, HPC.out]; exact HYZ.out
                    · exact HDN.out j' (by omega)⟩
                  case measure => have := HLT.out; simp [intOf]; omega
                · have t0 : (y0 == 0) = false := beq_eq_false_iff_ne.mpr hy0
                  have t1 := eq_false hy0
                  by_cases hc0 : cc = 0
                  · subst hc0
                    have hdi : m.disp = true := alive_disp (by rw [hyf]; exact hy0)
                    by_cases hu : und m = 0
                    · have HNM := Aside0.mk (stop_no hu)
                      have HST := Aside0.mk (stop_close hL.run.inv HS.out hdi hu)
                      have HMV := Aside0.mk HST.out.1
                      have HEV := Aside0.mk HST.out.2.1
                      obtain ⟨m2, hm2⟩ : ∃ m2, step m ⟨0, 0⟩ = m2 := ⟨_, rfl⟩
                      have HM2 := Aside0.mk hm2
                      rw [hm2] at HST
                      have HPC2 := Aside0.mk HST.out.2.2.1
                      have HGE : Aside0 (m2.got.length = G) := Aside0.mk (by rw [HST.out.2.2.2.2.1]; exact HG2.out)
                      have HALE : Aside0 (al m2 ≤ al m - 1) := Aside0.mk (by have h1 := HST.out.2.2.2.2.2.1; omega)
                      clear hL hdn hlt hy hyf hy0 hj hm2 hk0 hdi hu
                      have hcw := HCW.out
                      go_wp2_with (first | (go_at_call 29; first | ((with_reducible refine (l_placev HL.out _ HPR.out).mono ?_); rintro e wj ⟨z0, z1, z2, rfl, hz, hL, hb⟩; rw [HPC.out] at hz; obtain ⟨rfl, rfl, rfl⟩ := S59.mk.inj hz; have hl_ := hL.alloc (.cells #[.int .i64 y0, .int .i64 y1, .int .i64 y2] 59); clear HL; have HL := Aside0.mk hl_; clear hL hb hl_ hz) | ((with_reducible refine (l_placev HL.out _ HPR.out).mono ?_); rintro e wm ⟨z0, z1, z2, rfl, hz, hL, hb⟩; rw [HPC2.out] at hz; obtain ⟨rfl, rfl, rfl⟩ := S59.mk.inj hz; have hl_ := hL.alloc (.cells #[.int .i64 0, .int .i64 0, .int .i64 0] 59); clear HL; have HL := Aside0.mk hl_; have HN2 := Aside0.mk (blk_alloc ((hb.block _ (blk_lt HNP.out)).trans HNP.out) (.cells #[.int .i64 0, .int .i64 0, .int .i64 0] 59)); have g1 : (wm.alloc (.cells #[.int .i64 0, .int .i64 0, .int .i64 0] 59)).cell? ⟨b23, 1, none⟩ = some (.int .i64 0) := (blk_cell HN2.out 1).trans rfl; clear hL hb hl_ hz)) | (go_at_call 30; first | ((with_reducible refine (l_takel_no HL.out 0 1 HNM.out).mono ?_); rintro e wk1 ⟨rfl, hL, hb⟩; have HFAR := Aside0.mk (own_far hL); have hl_ := hL.box (.cells #[.int .i64 0, .int .i64 0, .int .i64 0, .int .i64 0] 42); have hn_ := heap_alloc_new wk1 (.cells #[.int .i64 0, .int .i64 0, .int .i64 0, .int .i64 0] 42); obtain ⟨b23, hb23⟩ : ∃ b, wk1.heap.size = b := ⟨_, rfl⟩; rw [hb23] at hn_ hl_ HFAR; clear HL; have HL := Aside0.mk hl_; have HN := Aside0.mk hn_; clear hL hb hl_ hn_) | ((with_reducible refine (l_takel HL.out 0 0 HMV.out).mono ?_); rintro e wn ⟨q0, q1, q2, q3, rfl, hz, hL, hh⟩; have hq1 : q1 = 0 := (by have := HEV.out; rw [hz] at this; exact this); subst hq1; rw [HM2.out] at hL; have hn_ := hh.own (M := fun k => k = b23) rfl HN.out; clear HN HL; have HN := Aside0.mk hn_; have e0 : wn.cell? ⟨b23, 0, none⟩ = some (.int .i64 0) := (blk_cell HN.out 0).trans rfl; have e1 : wn.cell? ⟨b23, 1, none⟩ = some (.int .i64 0) := (blk_cell HN.out 1).trans rfl; have e2 : wn.cell? ⟨b23, 2, none⟩ = some (.int .i64 0) := (blk_cell HN.out 2).trans rfl; have e3 : wn.cell? ⟨b23, 3, none⟩ = some (.int .i64 0) := (blk_cell HN.out 3).trans rfl; have f0 : wn.frozen? ⟨b23, 0, none⟩ = false := blk_frozen HN.out 0; have f1 : wn.frozen? ⟨b23, 1, none⟩ = false := blk_frozen HN.out 1; have f2 : wn.frozen? ⟨b23, 2, none⟩ = false := blk_frozen HN.out 2; have f3 : wn.frozen? ⟨b23, 3, none⟩ = false := blk_frozen HN.out 3; have HL := Aside0.mk (hL.write (four_kept wn b23 (.int .i64 q0) (.int .i64 0) (.int .i64 q2) (.int .i64 q3)) HFAR.out (four_world wn b23 (.int .i64 q0) (.int .i64 0) (.int .i64 q2) (.int .i64 q3)).1 (four_world wn b23 (.int .i64 q0) (.int .i64 0) (.int .i64 q2) (.int .i64 q3)).2.1 (four_world wn b23 (.int .i64 q0) (.int .i64 0) (.int .i64 q2) (.int .i64 q3)).2.2); have HNP := Aside0.mk (four_set HN.out (.int .i64 q0) (.int .i64 0) (.int .i64 q2) (.int .i64 q3)); have HPR2 := HPR; clear HPR; have HPR := Aside0.mk (show 0 ≤ (0 : Int) ∧ (0 : Int) ≤ m2.workers.length + 1 from ⟨Int.le_refl _, by omega⟩); clear hL hh hn_ hz)))
                      clear hcw
                      go_roundw
                      case rel => exact ⟨k + 1, m2, by go_num, by have := HKK.out; omega, HL.out.less (fun k hk => hk.elim), HST.out.2.2.2.1, HGE.out, by have := HALE.out; have := HAL.out; omega⟩
                      case measure => have := HKK.out; simp [intOf]; omega
                    · have HSD := Aside0.mk (stop_drop hL.run.inv HS.out hdi hu)
                      have HMV0 := Aside0.mk HSD.out.1
                      have HEV0 := Aside0.mk HSD.out.2.1
                      have HIN1 := Aside0.mk (inv_step hL.run.inv HSD.out.1)
                      obtain ⟨ma, hma⟩ : ∃ ma, step m ⟨0, 1⟩ = ma := ⟨_, rfl⟩
                      have HM1 := Aside0.mk hma
                      rw [hma] at HSD HIN1
                      have HST := Aside0.mk (stop_close HIN1.out HSD.out.2.2.1 HSD.out.2.2.2.2.2.1 HSD.out.2.2.2.2.2.2.1)
                      clear hma
                      have HMV := Aside0.mk HST.out.1
                      have HEV := Aside0.mk HST.out.2.1
                      obtain ⟨m2, hm2⟩ : ∃ m2, step ma ⟨0, 0⟩ = m2 := ⟨_, rfl⟩
                      have HM2 := Aside0.mk hm2
                      rw [hm2] at HST
                      have HPC2 := Aside0.mk HST.out.2.2.1
                      have HGE : Aside0 (m2.got.length = G) := Aside0.mk (by rw [HST.out.2.2.2.2.1, HSD.out.2.2.2.1]; exact HG2.out)
                      have HALE : Aside0 (al m2 ≤ al m - 1) := Aside0.mk (by have h1 := HST.out.2.2.2.2.2.1; have h2 := HSD.out.2.2.2.2.1; omega)
                      clear hL hdn hlt hy hyf hy0 hj hm2 hk0 hdi hu
                      have hcw := HCW.out
                      go_wp2_with (first | (go_at_call 29; first | ((with_reducible refine (l_placev HL.out _ HPR.out).mono ?_); rintro e wj ⟨z0, z1, z2, rfl, hz, hL, hb⟩; rw [HPC.out] at hz; obtain ⟨rfl, rfl, rfl⟩ := S59.mk.inj hz; have hl_ := hL.alloc (.cells #[.int .i64 y0, .int .i64 y1, .int .i64 y2] 59); clear HL; have HL := Aside0.mk hl_; clear hL hb hl_ hz) | ((with_reducible refine (l_placev HL.out _ HPR.out).mono ?_); rintro e wm ⟨z0, z1, z2, rfl, hz, hL, hb⟩; rw [HPC2.out] at hz; obtain ⟨rfl, rfl, rfl⟩ := S59.mk.inj hz; have hl_ := hL.alloc (.cells #[.int .i64 0, .int .i64 0, .int .i64 0] 59); clear HL; have HL := Aside0.mk hl_; have HN2 := Aside0.mk (blk_alloc ((hb.block _ (blk_lt HNP.out)).trans HNP.out) (.cells #[.int .i64 0, .int .i64 0, .int .i64 0] 59)); have g1 : (wm.alloc (.cells #[.int .i64 0, .int .i64 0, .int .i64 0] 59)).cell? ⟨b23, 1, none⟩ = some (.int .i64 0) := (blk_cell HN2.out 1).trans rfl; clear hL hb hl_ hz)) | (go_at_call 30; first | ((with_reducible refine (l_takel HL.out 0 1 HMV0.out).mono ?_); rintro e wk1 ⟨z0, z1, z2, z3, rfl, hz, hL, hh⟩; have hz0 : z0 = 2 := (by have := HEV0.out; rw [hz] at this; exact this); subst hz0; rw [HM1.out] at hL; have HFAR := Aside0.mk (own_far hL); have hl_ := hL.box (.cells #[.int .i64 2, .int .i64 z1, .int .i64 z2, .int .i64 z3] 42); have hn_ := heap_alloc_new wk1 (.cells #[.int .i64 2, .int .i64 z1, .int .i64 z2, .int .i64 z3] 42); obtain ⟨wk2, hwk⟩ : ∃ W0, wk1.alloc (.cells #[.int .i64 2, .int .i64 z1, .int .i64 z2, .int .i64 z3] 42) = W0 := ⟨_, rfl⟩; rw [hwk] at hl_ hn_; obtain ⟨b23, hb23⟩ : ∃ b, wk1.heap.size = b := ⟨_, rfl⟩; rw [hb23] at hn_ hl_ HFAR; clear HL; have HL := Aside0.mk hl_; have HN := Aside0.mk hn_; have e0 : wk2.cell? ⟨b23, 0, none⟩ = some (.int .i64 2) := (blk_cell HN.out 0).trans rfl; clear hL hh hl_ hn_ hz) | ((with_reducible refine (l_takel HL.out 0 0 HMV.out).mono ?_); rintro e wn ⟨q0, q1, q2, q3, rfl, hz, hL, hh⟩; have hq1 : q1 = 0 := (by have := HEV.out; rw [hz] at this; exact this); subst hq1; rw [HM2.out] at hL; have hn_ := hh.own (M := fun k => k = b23) rfl HN.out; clear HN HL; have HN := Aside0.mk hn_; clear e0; have e0 : wn.cell? ⟨b23, 0, none⟩ = some (.int .i64 2) := (blk_cell HN.out 0).trans rfl; have e1 : wn.cell? ⟨b23, 1, none⟩ = some (.int .i64 z1) := (blk_cell HN.out 1).trans rfl; have e2 : wn.cell? ⟨b23, 2, none⟩ = some (.int .i64 z2) := (blk_cell HN.out 2).trans rfl; have e3 : wn.cell? ⟨b23, 3, none⟩ = some (.int .i64 z3) := (blk_cell HN.out 3).trans rfl; have f0 : wn.frozen? ⟨b23, 0, none⟩ = false := blk_frozen HN.out 0; have f1 : wn.frozen? ⟨b23, 1, none⟩ = false := blk_frozen HN.out 1; have f2 : wn.frozen? ⟨b23, 2, none⟩ = false := blk_frozen HN.out 2; have f3 : wn.frozen? ⟨b23, 3, none⟩ = false := blk_frozen HN.out 3; have HL := Aside0.mk (hL.write (four_kept wn b23 (.int .i64 q0) (.int .i64 0) (.int .i64 q2) (.int .i64 q3)) HFAR.out (four_world wn b23 (.int .i64 q0) (.int .i64 0) (.int .i64 q2) (.int .i64 q3)).1 (four_world wn b23 (.int .i64 q0) (.int .i64 0) (.int .i64 q2) (.int .i64 q3)).2.1 (four_world wn b23 (.int .i64 q0) (.int .i64 0) (.int .i64 q2) (.int .i64 q3)).2.2); have HNP := Aside0.mk (four_set HN.out (.int .i64 q0) (.int .i64 0) (.int .i64 q2) (.int .i64 q3)); have HPR2 := HPR; clear HPR; have HPR := Aside0.mk (show 0 ≤ (0 : Int) ∧ (0 : Int) ≤ m2.workers.length + 1 from ⟨Int.le_refl _, by omega⟩); clear hL hh hn_ hz)))
                      clear hcw
                      go_roundw
                      case rel => exact ⟨k + 1, m2, by go_num, by have := HKK.out; omega, HL.out.less (fun k hk => hk.elim), HST.out.2.2.2.1, HGE.out, by have := HALE.out; have := HAL.out; omega⟩
                      case measure => have := HKK.out; simp [intOf]; omega
                  · have HST := Aside0.mk (stop_some hL.run.inv HS.out (show 1 ≤ cc by omega) HPR.out.2 (by rw [hyf]; exact hy0))
                    have HMV := Aside0.mk HST.out.1
                    have HEV := Aside0.mk HST.out.2.1
                    obtain ⟨m2, hm2⟩ : ∃ m2, step m ⟨cc, 1⟩ = m2 := ⟨_, rfl⟩
                    have HM2 := Aside0.mk hm2
                    rw [hm2] at HST
                    have HPC2 := Aside0.mk HST.out.2.2.1
                    have u0 : (cc == 0) = false := beq_eq_false_iff_ne.mpr hc0
                    have u1 := eq_false hc0
                    clear hL hdn hlt hy hyf hy0 hj hm2 hk0
                    have hcw := HCW.out
                    go_wp2_with (first | (go_at_call 29; first | ((with_reducible refine (l_placev HL.out _ HPR.out).mono ?_); rintro e wj ⟨z0, z1, z2, rfl, hz, hL, hb⟩; rw [HPC.out] at hz; obtain ⟨rfl, rfl, rfl⟩ := S59.mk.inj hz; have hl_ := hL.alloc (.cells #[.int .i64 y0, .int .i64 y1, .int .i64 y2] 59); clear HL; have HL := Aside0.mk hl_; clear hL hb hl_ hz) | ((with_reducible refine (l_placev HL.out _ HPR.out).mono ?_); rintro e wm ⟨z0, z1, z2, rfl, hz, hL, hb⟩; rw [HPC2.out] at hz; obtain ⟨rfl, rfl, rfl⟩ := S59.mk.inj hz; have hl_ := hL.alloc (.cells #[.int .i64 0, .int .i64 0, .int .i64 0] 59); clear HL; have HL := Aside0.mk hl_; have HN2 := Aside0.mk (blk_alloc ((hb.block _ (blk_lt HN.out)).trans HN.out) (.cells #[.int .i64 0, .int .i64 0, .int .i64 0] 59)); have g1 : (wm.alloc (.cells #[.int .i64 0, .int .i64 0, .int .i64 0] 59)).cell? ⟨b23, 1, none⟩ = some (.int .i64 z1) := (blk_cell HN2.out 1).trans rfl; clear hL hb hl_ hz)) | (go_at_call 30; (with_reducible refine (l_takel HL.out cc 1 HMV.out).mono ?_); rintro e wk1 ⟨z0, z1, z2, z3, rfl, hz, hL, hh⟩; have hl_ := hL.alloc (.cells #[.int .i64 z0, .int .i64 z1, .int .i64 z2, .int .i64 z3] 42); have hn_ := heap_alloc_new wk1 (.cells #[.int .i64 z0, .int .i64 z1, .int .i64 z2, .int .i64 z3] 42); have hz1 : z1 = cc := (by have := HEV.out; rw [hz] at this; exact this); obtain ⟨wk2, hwk⟩ : ∃ W0, wk1.alloc (.cells #[.int .i64 z0, .int .i64 z1, .int .i64 z2, .int .i64 z3] 42) = W0 := ⟨_, rfl⟩; rw [hwk] at hl_ hn_; obtain ⟨b23, hb23⟩ : ∃ b, wk1.heap.size = b := ⟨_, rfl⟩; rw [hb23] at hn_; subst hz1; have HN := Aside0.mk hn_; clear HL; have HL := Aside0.mk hl_; clear hL hh hl_ hn_ hz; rw [HM2.out] at HL; have HPR2 := HPR; clear HPR; have HPR := Aside0.mk (show 0 ≤ z1 ∧ z1 ≤ m2.workers.length + 1 from ⟨HPR2.out.1, by rw [HST.out.2.2.2.2.2.2]; exact HPR2.out.2⟩)))
                    clear hcw
                    go_roundw
                    case rel => exact ⟨k + 1, m2, by go_num, by have := HKK.out; omega, HL.out, HST.out.2.2.2.1, by rw [HST.out.2.2.2.2.1]; exact HG2.out, by have := HST.out.2.2.2.2.2.1; have := HAL.out; omega⟩
                    case measure => have := HKK.out; simp [intOf]; omega
              · have p0 : decide ((j : Int) ≤ pw + 1) = false := decide_eq_false hlt
                have p1 := eq_false hlt
                have e2 : (j : Int) = pw + 2 := by omega
                have HAZ := Aside0.mk (al_down (m := m) (fun c hc => by
                  obtain ⟨j', h1, h2⟩ := turn_c hpw.1 HK0.out.1 HK0.out.2 c (by have := HWL.out; omega)
                  rw [← h2]
                  exact hdn j' (by omega)))
                clear hL hdn hlt hj e2
                go_wp2
                go_roundw
                case rel => exact ⟨k + 1, m, by go_num, by have := HKK.out; omega, HL.out, HS.out, HG2.out, by have := HAZ.out; have := HKK.out; omega⟩
                case measure => have := HKK.out; simp [intOf]; omega

          · have r0 : decide ((k : Int) < (lo.length : Int)) = false := decide_eq_false (by omega)
            have r1 := eq_false (show ¬ (k : Int) < (lo.length : Int) by omega)
            have HK0 := Aside0.mk (show 0 ≤ (k : Int) ∧ (k : Int) < pw + 2 from ⟨by omega, by omega⟩)
            clear hL hs hg2 hal hk hlt hlo
            go_wp2
            clear d0 d1 d2 p0 p1 r0 r1
            go_loopw [19] (fun n wr => ∃ j : Nat, n = .int .i64 j ∧ (j : Int) ≤ pw + 2 ∧ Law w wr (fun _ => False) X w.heap.size w2.heap.size pw pj pr (.slice A xs.length c) xs g m ∧ ∀ j' : Nat, j' < j → (placeOf m (Int.tmod ((k : Int) + j') (pw + 2))).f0 = 0) (fun n _ => (pw + 2).toNat - (intOf n).toNat)
            case atStart => exact ⟨0, rfl, by omega, HL.out, fun j' hj' => by omega⟩
            case round =>
              obtain ⟨j, rfl, hj, hL, hdn⟩ := hrel
              clear HL
              have HL := Aside0.mk hL
              have HDN := Aside0.mk hdn
              have d0 : wr.cell? ⟨w2.heap.size, 0, none⟩ = some (.int .i64 pw) := (blk_cell HL.out.pb 0).trans rfl
              have d1 : wr.cell? ⟨w2.heap.size, 1, none⟩ = some (.int .i64 pj) := (blk_cell HL.out.pb 1).trans rfl
              have d2 : wr.cell? ⟨w2.heap.size, 2, none⟩ = some (.int .i64 pr) := (blk_cell HL.out.pb 2).trans rfl
              by_cases hlt : (j : Int) ≤ pw + 1
              · have p0 : decide ((j : Int) ≤ pw + 1) = true := decide_eq_true hlt
                have p1 := eq_true hlt
                have htb := turn_b hpw.1 HK0.out.1 j
                obtain ⟨cc, hcc⟩ : ∃ cc, Int.tmod ((k : Int) + j) (pw + 2) = cc := ⟨_, rfl⟩
                rw [hcc] at htb
                have HCC := Aside0.mk hcc
                have hk0_ := HK0.out
                have hpw_ := hpw
                have HCW : Aside0 (((k : Int) + j) % (pw + 2) = cc) := Aside0.mk (by rw [← Int.tmod_eq_emod_of_nonneg (by omega)]; exact hcc)
                clear hcc hk0_ hpw_
                have hj9 : (j : Int) ≤ 9 := by omega
                have HLT := Aside0.mk hlt
                have hk0 := HK0.out
                have hz0_ : ¬ (pw + 2 = 0) := by omega
                have hz1_ : (pw + 2 == 0) = false := beq_eq_false_iff_ne.mpr hz0_
                have HPR := Aside0.mk (show 0 ≤ cc ∧ cc ≤ m.workers.length + 1 from ⟨htb.1, by have := HWL.out; omega⟩)
                obtain ⟨y0, y1, y2, hy⟩ : ∃ y0 y1 y2, placeOf m cc = ⟨y0, y1, y2⟩ := ⟨_, _, _, rfl⟩
                have HPC := Aside0.mk hy
                have hyf : (placeOf m cc).f0 = y0 := by rw [hy]
                by_cases hy0 : y0 = 0
                · have t0 : (y0 == 0) = true := beq_iff_eq.mpr hy0
                  have t1 := eq_true hy0
                  have HYZ := Aside0.mk hy0
                  clear hL hdn hlt hy hyf hy0 hj hk0
                  have hcw := HCW.out
                  go_wp2_with (first | (go_at_call 29; ((with_reducible refine (l_placev HL.out _ HPR.out).mono ?_); rintro e wj ⟨z0, z1, z2, rfl, hz, hL, hb⟩; rw [HPC.out] at hz; obtain ⟨rfl, rfl, rfl⟩ := S59.mk.inj hz; have hl_ := hL.alloc (.cells #[.int .i64 y0, .int .i64 y1, .int .i64 y2] 59); clear HL; have HL := Aside0.mk hl_; clear hL hb hl_ hz)))
                  clear hcw
                  go_roundw
                  case rel => exact ⟨j + 1, by go_num, by have := HLT.out; omega, HL.out, fun j' hj' => by
                    by_cases e : j' = j
                    · subst e; rw [HCC.out, HPC.out]; exact HYZ.out
                    · exact HDN.out j' (by omega)⟩
                  case measure => have := HLT.out; simp [intOf]; omega
                · have t0 : (y0 == 0) = false := beq_eq_false_iff_ne.mpr hy0
                  have t1 := eq_false hy0
                  by_cases hc0 : cc = 0
                  · subst hc0
                    have hdi : m.disp = true := alive_disp (by rw [hyf]; exact hy0)
                    by_cases hu : und m = 0
                    · have HNM := Aside0.mk (stop_no hu)
                      have HST := Aside0.mk (stop_close hL.run.inv HS.out hdi hu)
                      have HMV := Aside0.mk HST.out.1
                      have HEV := Aside0.mk HST.out.2.1
                      obtain ⟨m2, hm2⟩ : ∃ m2, step m ⟨0, 0⟩ = m2 := ⟨_, rfl⟩
                      have HM2 := Aside0.mk hm2
                      rw [hm2] at HST
                      have HPC2 := Aside0.mk HST.out.2.2.1
                      have HGE : Aside0 (m2.got.length = G) := Aside0.mk (by rw [HST.out.2.2.2.2.1]; exact HG2.out)
                      have HALE : Aside0 (al m2 ≤ al m - 1) := Aside0.mk (by have h1 := HST.out.2.2.2.2.2.1; omega)
                      clear hL hdn hlt hy hyf hy0 hj hm2 hk0 hdi hu
                      have hcw := HCW.out
                      go_wp2_with (first | (go_at_call 29; first | ((with_reducible refine (l_placev HL.out _ HPR.out).mono ?_); rintro e wj ⟨z0, z1, z2, rfl, hz, hL, hb⟩; rw [HPC.out] at hz; obtain ⟨rfl, rfl, rfl⟩ := S59.mk.inj hz; have hl_ := hL.alloc (.cells #[.int .i64 y0, .int .i64 y1, .int .i64 y2] 59); clear HL; have HL := Aside0.mk hl_; clear hL hb hl_ hz) | ((with_reducible refine (l_placev HL.out _ HPR.out).mono ?_); rintro e wm ⟨z0, z1, z2, rfl, hz, hL, hb⟩; rw [HPC2.out] at hz; obtain ⟨rfl, rfl, rfl⟩ := S59.mk.inj hz; have hl_ := hL.alloc (.cells #[.int .i64 0, .int .i64 0, .int .i64 0] 59); clear HL; have HL := Aside0.mk hl_; have HN2 := Aside0.mk (blk_alloc ((hb.block _ (blk_lt HNP.out)).trans HNP.out) (.cells #[.int .i64 0, .int .i64 0, .int .i64 0] 59)); have g1 : (wm.alloc (.cells #[.int .i64 0, .int .i64 0, .int .i64 0] 59)).cell? ⟨b23, 1, none⟩ = some (.int .i64 0) := (blk_cell HN2.out 1).trans rfl; clear hL hb hl_ hz)) | (go_at_call 30; first | ((with_reducible refine (l_takel_no HL.out 0 1 HNM.out).mono ?_); rintro e wk1 ⟨rfl, hL, hb⟩; have HFAR := Aside0.mk (own_far hL); have hl_ := hL.box (.cells #[.int .i64 0, .int .i64 0, .int .i64 0, .int .i64 0] 42); have hn_ := heap_alloc_new wk1 (.cells #[.int .i64 0, .int .i64 0, .int .i64 0, .int .i64 0] 42); obtain ⟨b23, hb23⟩ : ∃ b, wk1.heap.size = b := ⟨_, rfl⟩; rw [hb23] at hn_ hl_ HFAR; clear HL; have HL := Aside0.mk hl_; have HN := Aside0.mk hn_; clear hL hb hl_ hn_) | ((with_reducible refine (l_takel HL.out 0 0 HMV.out).mono ?_); rintro e wn ⟨q0, q1, q2, q3, rfl, hz, hL, hh⟩; have hq1 : q1 = 0 := (by have := HEV.out; rw [hz] at this; exact this); subst hq1; rw [HM2.out] at hL; have hn_ := hh.own (M := fun k => k = b23) rfl HN.out; clear HN HL; have HN := Aside0.mk hn_; have e0 : wn.cell? ⟨b23, 0, none⟩ = some (.int .i64 0) := (blk_cell HN.out 0).trans rfl; have e1 : wn.cell? ⟨b23, 1, none⟩ = some (.int .i64 0) := (blk_cell HN.out 1).trans rfl; have e2 : wn.cell? ⟨b23, 2, none⟩ = some (.int .i64 0) := (blk_cell HN.out 2).trans rfl; have e3 : wn.cell? ⟨b23, 3, none⟩ = some (.int .i64 0) := (blk_cell HN.out 3).trans rfl; have f0 : wn.frozen? ⟨b23, 0, none⟩ = false := blk_frozen HN.out 0; have f1 : wn.frozen? ⟨b23, 1, none⟩ = false := blk_frozen HN.out 1; have f2 : wn.frozen? ⟨b23, 2, none⟩ = false := blk_frozen HN.out 2; have f3 : wn.frozen? ⟨b23, 3, none⟩ = false := blk_frozen HN.out 3; have HL := Aside0.mk (hL.write (four_kept wn b23 (.int .i64 q0) (.int .i64 0) (.int .i64 q2) (.int .i64 q3)) HFAR.out (four_world wn b23 (.int .i64 q0) (.int .i64 0) (.int .i64 q2) (.int .i64 q3)).1 (four_world wn b23 (.int .i64 q0) (.int .i64 0) (.int .i64 q2) (.int .i64 q3)).2.1 (four_world wn b23 (.int .i64 q0) (.int .i64 0) (.int .i64 q2) (.int .i64 q3)).2.2); have HNP := Aside0.mk (four_set HN.out (.int .i64 q0) (.int .i64 0) (.int .i64 q2) (.int .i64 q3)); have HPR2 := HPR; clear HPR; have HPR := Aside0.mk (show 0 ≤ (0 : Int) ∧ (0 : Int) ≤ m2.workers.length + 1 from ⟨Int.le_refl _, by omega⟩); clear hL hh hn_ hz)))
                      clear hcw
                      go_roundw
                      case rel => exact ⟨k + 1, m2, by go_num, by have := HKK.out; omega, HL.out.less (fun k hk => hk.elim), HST.out.2.2.2.1, HGE.out, by have := HALE.out; have := HAL.out; omega⟩
                      case measure => have := HKK.out; simp [intOf]; omega
                    · have HSD := Aside0.mk (stop_drop hL.run.inv HS.out hdi hu)
                      have HMV0 := Aside0.mk HSD.out.1
                      have HEV0 := Aside0.mk HSD.out.2.1
                      have HIN1 := Aside0.mk (inv_step hL.run.inv HSD.out.1)
                      obtain ⟨ma, hma⟩ : ∃ ma, step m ⟨0, 1⟩ = ma := ⟨_, rfl⟩
                      have HM1 := Aside0.mk hma
                      rw [hma] at HSD HIN1
                      have HST := Aside0.mk (stop_close HIN1.out HSD.out.2.2.1 HSD.out.2.2.2.2.2.1 HSD.out.2.2.2.2.2.2.1)
                      clear hma
                      have HMV := Aside0.mk HST.out.1
                      have HEV := Aside0.mk HST.out.2.1
                      obtain ⟨m2, hm2⟩ : ∃ m2, step ma ⟨0, 0⟩ = m2 := ⟨_, rfl⟩
                      have HM2 := Aside0.mk hm2
                      rw [hm2] at HST
                      have HPC2 := Aside0.mk HST.out.2.2.1
                      have HGE : Aside0 (m2.got.length = G) := Aside0.mk (by rw [HST.out.2.2.2.2.1, HSD.out.2.2.2.1]; exact HG2.out)
                      have HALE : Aside0 (al m2 ≤ al m - 1) := Aside0.mk (by have h1 := HST.out.2.2.2.2.2.1; have h2 := HSD.out.2.2.2.2.1; omega)
                      clear hL hdn hlt hy hyf hy0 hj hm2 hk0 hdi hu
                      have hcw := HCW.out
                      go_wp2_with (first | (go_at_call 29; first | ((with_reducible refine (l_placev HL.out _ HPR.out).mono ?_); rintro e wj ⟨z0, z1, z2, rfl, hz, hL, hb⟩; rw [HPC.out] at hz; obtain ⟨rfl, rfl, rfl⟩ := S59.mk.inj hz; have hl_ := hL.alloc (.cells #[.int .i64 y0, .int .i64 y1, .int .i64 y2] 59); clear HL; have HL := Aside0.mk hl_; clear hL hb hl_ hz) | ((with_reducible refine (l_placev HL.out _ HPR.out).mono ?_); rintro e wm ⟨z0, z1, z2, rfl, hz, hL, hb⟩; rw [HPC2.out] at hz; obtain ⟨rfl, rfl, rfl⟩ := S59.mk.inj hz; have hl_ := hL.alloc (.cells #[.int .i64 0, .int .i64 0, .int .i64 0] 59); clear HL; have HL := Aside0.mk hl_; have HN2 := Aside0.mk (blk_alloc ((hb.block _ (blk_lt HNP.out)).trans HNP.out) (.cells #[.int .i64 0, .int .i64 0, .int .i64 0] 59)); have g1 : (wm.alloc (.cells #[.int .i64 0, .int .i64 0, .int .i64 0] 59)).cell? ⟨b23, 1, none⟩ = some (.int .i64 0) := (blk_cell HN2.out 1).trans rfl; clear hL hb hl_ hz)) | (go_at_call 30; first | ((with_reducible refine (l_takel HL.out 0 1 HMV0.out).mono ?_); rintro e wk1 ⟨z0, z1, z2, z3, rfl, hz, hL, hh⟩; have hz0 : z0 = 2 := (by have := HEV0.out; rw [hz] at this; exact this); subst hz0; rw [HM1.out] at hL; have HFAR := Aside0.mk (own_far hL); have hl_ := hL.box (.cells #[.int .i64 2, .int .i64 z1, .int .i64 z2, .int .i64 z3] 42); have hn_ := heap_alloc_new wk1 (.cells #[.int .i64 2, .int .i64 z1, .int .i64 z2, .int .i64 z3] 42); obtain ⟨wk2, hwk⟩ : ∃ W0, wk1.alloc (.cells #[.int .i64 2, .int .i64 z1, .int .i64 z2, .int .i64 z3] 42) = W0 := ⟨_, rfl⟩; rw [hwk] at hl_ hn_; obtain ⟨b23, hb23⟩ : ∃ b, wk1.heap.size = b := ⟨_, rfl⟩; rw [hb23] at hn_ hl_ HFAR; clear HL; have HL := Aside0.mk hl_; have HN := Aside0.mk hn_; have e0 : wk2.cell? ⟨b23, 0, none⟩ = some (.int .i64 2) := (blk_cell HN.out 0).trans rfl; clear hL hh hl_ hn_ hz) | ((with_reducible refine (l_takel HL.out 0 0 HMV.out).mono ?_); rintro e wn ⟨q0, q1, q2, q3, rfl, hz, hL, hh⟩; have hq1 : q1 = 0 := (by have := HEV.out; rw [hz] at this; exact this); subst hq1; rw [HM2.out] at hL; have hn_ := hh.own (M := fun k => k = b23) rfl HN.out; clear HN HL; have HN := Aside0.mk hn_; clear e0; have e0 : wn.cell? ⟨b23, 0, none⟩ = some (.int .i64 2) := (blk_cell HN.out 0).trans rfl; have e1 : wn.cell? ⟨b23, 1, none⟩ = some (.int .i64 z1) := (blk_cell HN.out 1).trans rfl; have e2 : wn.cell? ⟨b23, 2, none⟩ = some (.int .i64 z2) := (blk_cell HN.out 2).trans rfl; have e3 : wn.cell? ⟨b23, 3, none⟩ = some (.int .i64 z3) := (blk_cell HN.out 3).trans rfl; have f0 : wn.frozen? ⟨b23, 0, none⟩ = false := blk_frozen HN.out 0; have f1 : wn.frozen? ⟨b23, 1, none⟩ = false := blk_frozen HN.out 1; have f2 : wn.frozen? ⟨b23, 2, none⟩ = false := blk_frozen HN.out 2; have f3 : wn.frozen? ⟨b23, 3, none⟩ = false := blk_frozen HN.out 3; have HL := Aside0.mk (hL.write (four_kept wn b23 (.int .i64 q0) (.int .i64 0) (.int .i64 q2) (.int .i64 q3)) HFAR.out (four_world wn b23 (.int .i64 q0) (.int .i64 0) (.int .i64 q2) (.int .i64 q3)).1 (four_world wn b23 (.int .i64 q0) (.int .i64 0) (.int .i64 q2) (.int .i64 q3)).2.1 (four_world wn b23 (.int .i64 q0) (.int .i64 0) (.int .i64 q2) (.int .i64 q3)).2.2); have HNP := Aside0.mk (four_set HN.out (.int .i64 q0) (.int .i64 0) (.int .i64 q2) (.int .i64 q3)); have HPR2 := HPR; clear HPR; have HPR := Aside0.mk (show 0 ≤ (0 : Int) ∧ (0 : Int) ≤ m2.workers.length + 1 from ⟨Int.le_refl _, by omega⟩); clear hL hh hn_ hz)))
                      clear hcw
                      go_roundw
                      case rel => exact ⟨k + 1, m2, by go_num, by have := HKK.out; omega, HL.out.less (fun k hk => hk.elim), HST.out.2.2.2.1, HGE.out, by have := HALE.out; have := HAL.out; omega⟩
                      case measure => have := HKK.out; simp [intOf]; omega
                  · have HST := Aside0.mk (stop_some hL.run.inv HS.out (show 1 ≤ cc by omega) HPR.out.2 (by rw [hyf]; exact hy0))
                    have HMV := Aside0.mk HST.out.1
                    have HEV := Aside0.mk HST.out.2.1
                    obtain ⟨m2, hm2⟩ : ∃ m2, step m ⟨cc, 1⟩ = m2 := ⟨_, rfl⟩
                    have HM2 := Aside0.mk hm2
                    rw [hm2] at HST
                    have HPC2 := Aside0.mk HST.out.2.2.1
                    have u0 : (cc == 0) = false := beq_eq_false_iff_ne.mpr hc0
                    have u1 := eq_false hc0
                    clear hL hdn hlt hy hyf hy0 hj hm2 hk0
                    have hcw := HCW.out
                    go_wp2_with (first | (go_at_call 29; first | ((with_reducible refine (l_placev HL.out _ HPR.out).mono ?_); rintro e wj ⟨z0, z1, z2, rfl, hz, hL, hb⟩; rw [HPC.out] at hz; obtain ⟨rfl, rfl, rfl⟩ := S59.mk.inj hz; have hl_ := hL.alloc (.cells #[.int .i64 y0, .int .i64 y1, .int .i64 y2] 59); clear HL; have HL := Aside0.mk hl_; clear hL hb hl_ hz) | ((with_reducible refine (l_placev HL.out _ HPR.out).mono ?_); rintro e wm ⟨z0, z1, z2, rfl, hz, hL, hb⟩; rw [HPC2.out] at hz; obtain ⟨rfl, rfl, rfl⟩ := S59.mk.inj hz; have hl_ := hL.alloc (.cells #[.int .i64 0, .int .i64 0, .int .i64 0] 59); clear HL; have HL := Aside0.mk hl_; have HN2 := Aside0.mk (blk_alloc ((hb.block _ (blk_lt HN.out)).trans HN.out) (.cells #[.int .i64 0, .int .i64 0, .int .i64 0] 59)); have g1 : (wm.alloc (.cells #[.int .i64 0, .int .i64 0, .int .i64 0] 59)).cell? ⟨b23, 1, none⟩ = some (.int .i64 z1) := (blk_cell HN2.out 1).trans rfl; clear hL hb hl_ hz)) | (go_at_call 30; (with_reducible refine (l_takel HL.out cc 1 HMV.out).mono ?_); rintro e wk1 ⟨z0, z1, z2, z3, rfl, hz, hL, hh⟩; have hl_ := hL.alloc (.cells #[.int .i64 z0, .int .i64 z1, .int .i64 z2, .int .i64 z3] 42); have hn_ := heap_alloc_new wk1 (.cells #[.int .i64 z0, .int .i64 z1, .int .i64 z2, .int .i64 z3] 42); have hz1 : z1 = cc := (by have := HEV.out; rw [hz] at this; exact this); obtain ⟨wk2, hwk⟩ : ∃ W0, wk1.alloc (.cells #[.int .i64 z0, .int .i64 z1, .int .i64 z2, .int .i64 z3] 42) = W0 := ⟨_, rfl⟩; rw [hwk] at hl_ hn_; obtain ⟨b23, hb23⟩ : ∃ b, wk1.heap.size = b := ⟨_, rfl⟩; rw [hb23] at hn_; subst hz1; have HN := Aside0.mk hn_; clear HL; have HL := Aside0.mk hl_; clear hL hh hl_ hn_ hz; rw [HM2.out] at HL; have HPR2 := HPR; clear HPR; have HPR := Aside0.mk (show 0 ≤ z1 ∧ z1 ≤ m2.workers.length + 1 from ⟨HPR2.out.1, by rw [HST.out.2.2.2.2.2.2]; exact HPR2.out.2⟩)))
                    clear hcw
                    go_roundw
                    case rel => exact ⟨k + 1, m2, by go_num, by have := HKK.out; omega, HL.out, HST.out.2.2.2.1, by rw [HST.out.2.2.2.2.1]; exact HG2.out, by have := HST.out.2.2.2.2.2.1; have := HAL.out; omega⟩
                    case measure => have := HKK.out; simp [intOf]; omega
              · have p0 : decide ((j : Int) ≤ pw + 1) = false := decide_eq_false hlt
                have p1 := eq_false hlt
                have e2 : (j : Int) = pw + 2 := by omega
                have HAZ := Aside0.mk (al_down (m := m) (fun c hc => by
                  obtain ⟨j', h1, h2⟩ := turn_c hpw.1 HK0.out.1 HK0.out.2 c (by have := HWL.out; omega)
                  rw [← h2]
                  exact hdn j' (by omega)))
                clear hL hdn hlt hj e2
                go_wp2
                go_roundw
                case rel => exact ⟨k + 1, m, by go_num, by have := HKK.out; omega, HL.out, HS.out, HG2.out, by have := HAZ.out; have := HKK.out; omega⟩
                case measure => have := HKK.out; simp [intOf]; omega

        · have p0 : decide ((k : Int) ≤ pw + 1) = false := decide_eq_false hlt
          have p1 := eq_false hlt
          have hd : doneOf m = true := al_zero (by omega)
          have hcl := (done_facts hL.run.inv.ok hd).2.1
          have HOU := Aside0.mk (show m.outcome = 1 ∨ m.outcome = 2 by
            rcases hL.run.inv.out with ⟨h, _⟩ | ⟨_, h | h⟩
            · rw [hcl] at h; simp at h
            · exact .inl h.1
            · exact .inr h.1)
          clear hL hs hg2 hal hk hlt hcl
          rcases HOU.out with ho | ho
          · go_wp2_with (first | (go_at_call 27; (with_reducible refine (r_outcome HL.out.run).mono ?_); rintro e wx ⟨rfl, hwx⟩; subst hwx; rw [ho]) | (go_at_call 17; (with_reducible refine (l_done HL.out).mono ?_); rintro e wy ⟨rfl, hL, hb⟩; clear HL; have HL := Aside0.mk hL; clear hL hb) | (go_at_call 26; (with_reducible refine (l_got HL.out).mono ?_); rintro e wz ⟨A2, c2, rfl, hog, hL, hb⟩; rw [HG2.out]; clear HL; have HL := Aside0.mk hL; clear hog hL hb))
            go_ret
            exact ⟨rfl, HL.out.run.bel⟩
          · go_wp2_with (first | (go_at_call 27; (with_reducible refine (r_outcome HL.out.run).mono ?_); rintro e wx ⟨rfl, hwx⟩; subst hwx; rw [ho]) | (go_at_call 17; (with_reducible refine (l_done HL.out).mono ?_); rintro e wy ⟨rfl, hL, hb⟩; clear HL; have HL := Aside0.mk hL; clear hL hb) | (go_at_call 26; (with_reducible refine (l_got HL.out).mono ?_); rintro e wz ⟨A2, c2, rfl, hog, hL, hb⟩; rw [HG2.out]; clear HL; have HL := Aside0.mk hL; clear hog hL hb))
            go_ret
            exact ⟨rfl, HL.out.run.bel⟩
end Go.Proofs.Ythcchpbidbbiaaa.Sc
namespace Go.Proofs.Ythcchpbidbbiaaa.schedStops
open Go.ChangeShapes Go.WideShapes Go.ChangeAt Go.RowKit Go.Joins
open Go.Proofs.YthcchpbidbbiaaaW
set_option linter.unusedVariables false
theorem own : ownKnob Try.prog.godebug = none := by kernel_rfl
theorem laidOut : laidOutB Try.prog = true := by kernel_rfl
set_option maxRecDepth 100000 in
theorem lifted (os : Os) (started : os.Started) (H : Type) (enc : TypeId × Value → H) :
    ReturnsInHanded {} Try.checked os 5 .any (Rows.schedStopsSpec.pre6 enc Try.prog Try.f5 Rows.schedStopsRow.domain false) (Rows.schedStopsSpec.post enc Try.prog Try.f5 false true false false) := by
  refine returnsInHanded_of_change_sized (C := Try.checked) own started (by kernel_rfl) Try.func5
    (ChangeSpec.witness6 (enc := enc) (C := Try.checked) false ⟨#[], #[.agg #[.int .i64 0, .int .i64 0, .int .i64 0, .slice none 0 0, .slice none 0 0, .int .i64 0], .slice none 0 0], []⟩ 8 (by kernel_rfl) (by kernel_rfl) (by kernel_rfl) (by kernel_rfl)) ?_
  intro W base args ds gs before hval0 hW hcnd hsz0 _
  have hval : ∀ (j : Nat) t v, Try.f5.params[j]? = some t → args[j]? = some v → Value.okWide Try.prog W .any base t v := hval0
  have hW' := hW
  obtain ⟨p, q, hA0, hV, rfl, hfz, hnd⟩ := hW
  have hA : DataW.TrodAll enc Try.prog W 0 (fun _ => true) true Try.f5.params.toList args.toList ds p := hA0
  rw [Try.params5] at hA hval
  obtain ⟨v0, vs0, d0, ds0, p0, q0, hargs, rfl, rfl, h0, r0⟩ := trodAll_cons hA
  obtain ⟨v1, vs1, d1, ds1, p1, q1, rfl, rfl, rfl, h1, r1⟩ := trodAll_cons r0
  obtain ⟨rfl, rfl, rfl⟩ := trodAll_nil r1
  obtain rfl : args = #[v0, v1] := by cases args; simp_all
  obtain ⟨rfl, rfl⟩ := trodVars_none hV
  have k0 := h0
  have lt0 : ∀ x ∈ p0, x.block < W.heap.size := by obtain ⟨m, hm⟩ := k0; exact DataW.trod_lt m _ _ _ hm
  have k1 := h1
  have lt1 : ∀ x ∈ p1, x.block < W.heap.size := by obtain ⟨m, hm⟩ := k1; exact DataW.trod_lt m _ _ _ hm
  obtain ⟨X, rfl, hX⟩ := Sc.work_open (fun _ => rfl) (hval 0 37 v0 rfl rfl) h0
  obtain ⟨a1, len1, cap1, rfl⟩ := okWide_slice Try.underlying24 (hval 1 24 v1 rfl rfl)
  obtain ⟨A1, l1, c1, e1, hC1, hc1⟩ : ∃ A l c', (Value.slice a1 len1 cap1) = .slice A l.length c' ∧ PrintWords.Kd.C (PrintWords.Kd.int .i64) W A l.length l ∧ l.length ≤ c' := by
    obtain ⟨fuel, hf⟩ := h1
    exact Sc.ints_open (fun _ => rfl) hf
  obtain ⟨ea1, el1, ec1⟩ := Value.slice.inj e1
  subst ea1 el1 ec1
  clear hA0 hval0 hsz0
  refine (Sc.stops_walk X W hX a1 l1 cap1 hC1 hc1).mono fun e W' ⟨he, bel⟩ => ?_
  subst he
  exact ⟨_, rfl, _, _, _, [], _, [], hW', trodAll_mk1 (shut_bool Try.underlying4 _), (trodAll_cons_mk (Below.trod laidOut (by kernel_rfl) (of_decide_eq_true (by kernel_rfl)) k0 bel lt0) (trodAll_cons_mk (Below.trod laidOut (by kernel_rfl) (of_decide_eq_true (by kernel_rfl)) k1 bel lt1) trodAll_mk0)), rfl, bel.frame _, fun h => by cases h⟩
theorem over : Rows.schedStopsRow.holds Try.pinned (OpenSpec.ofChange Rows.schedStopsSpec) :=
  OpenClaim.holds_of_wide 5 Try.f5 rfl rfl rfl rfl rfl rfl rfl ⟨rfl, rfl, rfl, rfl, rfl⟩ rfl rfl rfl rfl rfl (by kernel_rfl) Try.func5 (by kernel_rfl)
    (of_decide_eq_true (by kernel_rfl)) (by unfold Func.isWrapper; first | (rw [if_pos (by decide +kernel)]; kernel_rfl) | (rw [if_neg (by decide +kernel)]; exact ⟨rfl, rfl⟩))
    (fun os started H enc _ => lifted os started H enc)
theorem proved : Rows.SchedStopsSaid := over
#print axioms proved
end Go.Proofs.Ythcchpbidbbiaaa.schedStops
namespace Go.Proofs.Ythcchpbidbbiaaa
/-- The row, under a short name, for the claim. -/
theorem schedStops_holds : Rows.SchedStopsSaid := schedStops.proved
end Go.Proofs.Ythcchpbidbbiaaa
