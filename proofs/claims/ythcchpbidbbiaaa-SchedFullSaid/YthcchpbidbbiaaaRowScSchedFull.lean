/- Proved: for every Work x, SchedFull returns true: no condition. -/
import Derived.Test.YthcchpbidbbiaaaScg
import Derived.Test.YthcchpbidbbiaaaRows
import Derived.WalkKit
import Derived.ProofKit
import Derived.OpenShut
import Derived.ShutString
import Derived.ChangeOld
import Derived.Below
import Derived.SizedLaws
import Derived.Lib.SmallJoins
namespace Go.Proofs.Ythcchpbidbbiaaa.Sc
open Go.RowKit Go.Proofs.YthcchpbidbbiaaaW.PrintWords Go.Proofs.YthcchpbidbbiaaaW.PrintLast Go.Proofs.YthcchpbidbbiaaaW.PrintMore Go.Proofs.Ythcchpbidbbiaaa.PSchedSide
set_option linter.unusedVariables false
set_option linter.unusedSimpArgs false
/-- A machine that is done, and was never cancelled, has nothing left. -/
theorem done_rem {m : Mach} (hI : Inv m) (hs : m.stopped = false) (hd : doneOf m = true) : rem m = 0 ∧ m.sent = [] ∧ m.given = [] ∧ und m = 0 ∧ m.judged = m.jobs.length ∧ m.outcome = 1 ∧ m.got.length = m.jobs.length := by
  have hO := hI.ok
  obtain ⟨h1, h2, h3⟩ := done_facts hO hd
  obtain ⟨hdr, hct, _⟩ := hI.run hs
  have hu := hI.dis h1
  have hu' := hu
  rw [und_eq hdr] at hu'
  have hlen : 0 < m.workers.length := by have := hO.nw; have := hO.pw; omega
  have hse : m.sent = [] := (hI.low hs ⟨m.workers[0], List.getElem_mem hlen, by rw [h3 _ (List.getElem_mem hlen)]⟩).2
  have hw0 : working m.workers = 0 := working_zero (fun x hx => by rw [h3 x hx])
  have ho : m.outcome = 1 ∧ m.got.length = m.jobs.length := by
    rcases hI.out with h | ⟨_, h | h⟩
    · rw [h2] at h; simp at h
    · exact h
    · rw [hs] at h; simp at h
  have hjd := hO.jd
  rw [hse, hw0] at hct
  have hgv : m.given = [] := List.eq_nil_of_length_eq_zero (by simp at hct; omega)
  have hsw : ∀ ws : List S99, (∀ x ∈ ws, x.f0 = ⟨0, 0, 0⟩) → sumW ws = 0 := by
    intro ws
    induction ws with
    | nil => intro _; rfl
    | cons x ws ih =>
      intro h
      have h4 := ih (fun y hy => h y (List.mem_cons_of_mem _ hy))
      have h5 : wrem x = 0 := by unfold wrem; rw [h x List.mem_cons_self]; rfl
      simp only [sumW, List.map_cons, List.sum_cons] at h4 ⊢
      omega
  have hrs : restS m = 0 := by
    unfold restS
    rw [hdr, if_neg (by simp), List.drop_eq_nil_of_le (by omega)]
    rfl
  refine ⟨?_, hse, hgv, hu, by simp at hct; omega, ho.1, ho.2⟩
  unfold rem
  rw [h1, h2, hrs, hse, hgv, hsw m.workers h3]
  rfl
theorem nodup_take {l : List Int} (h : l.Nodup) {k : Nat} (hk : k < l.length) : l[k] ∉ l.take k := by
  intro hm
  obtain ⟨i, hi, he⟩ := List.getElem_of_mem hm
  rw [List.length_take] at hi
  rw [List.getElem_take] at he
  have := (List.getElem_inj h).1 he
  omega
theorem got_facts {m : Mach} (hI : Inv m) : m.got.Nodup ∧ ∀ j ∈ m.got, 0 ≤ j ∧ j < m.jobs.length := by
  have h := hI.nod
  have hl := hI.lt
  unfold alls at h hl
  have h2 := (List.nodup_append.1 (List.nodup_append.1 (List.nodup_append.1 h).2.1).2.1).2.1
  refine ⟨h2, fun j hj => ⟨hI.gn j hj, ?_⟩⟩
  have h3 := hl j (by simp [hj])
  have h4 := hI.ok.nx
  omega
theorem full_meas {m : Mach} (hI : Inv m) (hs : m.stopped = false) (hd : doneOf m = true) : measOf m = ⟨0, 0, 0, 0, 0⟩ := by
  obtain ⟨_, h1, h2, h3, h4, _, _⟩ := done_rem hI hs hd
  obtain ⟨h5, h6⟩ := done_meas hI.ok hd
  unfold measOf at h5 h6 ⊢
  simp only [] at h5 h6
  rw [h1, h2, h3, h4, h5, h6]
  simp
/-- Which of n jobs are in a list, as cells. -/
def seenC (n : Nat) (l : List Int) : Array Value := ((List.range n).map fun (j : Nat) => Value.bool (decide ((j : Int) ∈ l))).toArray
theorem seenC_made (n : Nat) : madeCells #[.bool false] n = seenC n [] := by
  apply Array.ext
  · simp [seenC, madeCells]
  · intro i h1 h2
    simp [seenC, madeCells, Nat.mod_one]
theorem seenC_at {n j : Nat} (l : List Int) (h : j < n) : (seenC n l)[j]? = some (.bool (decide ((j : Int) ∈ l))) := by
  simp [seenC, h]
theorem seenC_set {n j : Nat} (l : List Int) (h : j < n) : (seenC n l).setIfInBounds j (.bool true) = seenC n (l ++ [(j : Int)]) := by
  apply Array.ext_getElem?
  intro i
  rw [Array.getElem?_setIfInBounds]
  by_cases hi : i < n
  · rw [seenC_at _ hi]
    by_cases e : j = i
    · subst e
      rw [if_pos rfl, if_pos (by simpa [seenC] using hi), seenC_at _ hi]
      simp
    · rw [if_neg e, seenC_at _ hi]
      have : ¬ ((i : Int) = j) := by omega
      simp [this]
  · rw [if_neg (by omega)]
    simp [seenC, hi]
theorem addr_add0 (b j : Nat) : (⟨b, 0, none⟩ : Addr).add j = ⟨b, j, none⟩ := by
  unfold Addr.add
  split <;> simp_all
theorem own_far {w W : World} {M : Nat → Prop} {X : Raw} {b1 b4 g : Nat} {pw pj pr : Int} {v : Value} {xs : List Int} {m : Mach} (h : Law w W M X b1 b4 pw pj pr v xs g m) : ∀ k, k = W.heap.size → k ≠ b1 ∧ k ≠ b4 ∧ some k ≠ v.ownBlock := by
  rintro k rfl
  refine ⟨fun e => ?_, fun e => ?_, fun e => ?_⟩
  · have := blk_lt h.wb; omega
  · have := blk_lt h.pb; omega
  · have := h.js.lt _ e; omega
theorem own_seen {w W : World} {X : Raw} {b1 b4 g : Nat} {pw pj pr : Int} {v : Value} {xs : List Int} {m : Mach} (h : Law w W (fun _ => False) X b1 b4 pw pj pr v xs g m) (n : Nat) : Law w (W.alloc (.cells (madeCells #[.bool false] n) 4)) (fun k => k = W.heap.size) X b1 b4 pw pj pr v xs g m :=
  (h.add (below_alloc (Below.refl _ _) _) (M' := fun k => k = W.heap.size) (by rintro k rfl; simp)).less (fun k hk => .inr hk)
set_option maxHeartbeats 16000000 in
set_option maxRecDepth 1000000 in
theorem full_walk (X : Raw) (w : World) (hX : X.In w) : Calls Try.prog 7 #[.agg #[.int .i64 X.x0, .int .i64 X.x1, .int .i64 X.x2, .slice X.A3 X.l3.length X.c3, .slice X.A4 X.l4.length X.c4, .int .i64 X.x5]] w fun e w' => e = .returned (.bool true) ∧ Below w.heap.size w w' := by
  have HB := Aside0.mk (below_alloc (Below.refl w.heap.size w) (.cells (wcells X) 37))
  have HX := Aside0.mk (heap_alloc_new w (.cells (wcells X) 37))
  have HXW := Aside0.mk hX
  clear hX
  go_enter Try.func7, Try.ntmps7
  go_wp2_with (first | (go_at_call 12; (with_reducible refine (awake_calls _).mono ?_); rintro e w1 ⟨rfl, hb⟩; have HB1 := Aside0.mk (HB.out.trans (hb.mono HB.out.size)); have HX1 := Aside0.mk ((hb.block _ (blk_lt HX.out)).trans HX.out); have HXI := Aside0.mk (HXW.out.below HB1.out); have c0 : w1.cell? ⟨w.heap.size, 0, none⟩ = some (.int .i64 X.x0) := (blk_cell HX1.out 0).trans rfl; have c1 : w1.cell? ⟨w.heap.size, 1, none⟩ = some (.int .i64 X.x1) := (blk_cell HX1.out 1).trans rfl; have c2 : w1.cell? ⟨w.heap.size, 2, none⟩ = some (.int .i64 X.x2) := (blk_cell HX1.out 2).trans rfl; have c3 : w1.cell? ⟨w.heap.size, 3, none⟩ = some (.slice X.A3 X.l3.length X.c3) := (blk_cell HX1.out 3).trans rfl; have c4 : w1.cell? ⟨w.heap.size, 4, none⟩ = some (.slice X.A4 X.l4.length X.c4) := (blk_cell HX1.out 4).trans rfl; have c5 : w1.cell? ⟨w.heap.size, 5, none⟩ = some (.int .i64 X.x5) := (blk_cell HX1.out 5).trans rfl; clear hb) | (go_at_call 16; (with_reducible refine (l_plain X HXI.out).mono ?_); rintro e w2 ⟨pw, pj, pr, A, c, xs, rfl, hp, hl, hj, hr, hb⟩; have HP := Aside0.mk hp; have HLN := Aside0.mk hl; have HJS := Aside0.mk hj; have HB2 := Aside0.mk (below_alloc (HB1.out.trans (hb.mono HB1.out.size)) (.cells #[.int .i64 pw, .int .i64 pj, .int .i64 pr] 23)); have HX2 := Aside0.mk (blk_alloc ((hb.block _ (blk_lt HX1.out)).trans HX1.out) (.cells #[.int .i64 pw, .int .i64 pj, .int .i64 pr] 23)); have HQ2 := Aside0.mk (heap_alloc_new w2 (.cells #[.int .i64 pw, .int .i64 pj, .int .i64 pr] 23)); have HV2 := Aside0.mk (Own.of rfl (Kd.R_alloc hr (.cells #[.int .i64 pw, .int .i64 pj, .int .i64 pr] 23))); have HW1 := Aside0.mk (Nat.le_trans HB1.out.size hb.size); have HV0 := Aside0.mk (fun k (hk : some k = (Value.slice A xs.length c).ownBlock) => Nat.le_trans HB1.out.size (Kd.R_base hr k hk.symm)); clear c0 c1 c2 c3 c4 c5; clear hp hl hj hr hb) | (go_at_call 15; (with_reducible refine (l_new (b1 := w.heap.size) (b4 := w2.heap.size) X A c HB2.out HP.out HLN.out HJS.out HX2.out (Nat.le_refl _) HQ2.out HW1.out HV2.out HV0.out).mono ?_); rintro e w3 ⟨g, rfl, hL, hb⟩; have HL := Aside0.mk hL; have c0 : w3.cell? ⟨w.heap.size, 0, none⟩ = some (.int .i64 X.x0) := (blk_cell HL.out.wb 0).trans rfl; have c1 : w3.cell? ⟨w.heap.size, 1, none⟩ = some (.int .i64 X.x1) := (blk_cell HL.out.wb 1).trans rfl; have c2 : w3.cell? ⟨w.heap.size, 2, none⟩ = some (.int .i64 X.x2) := (blk_cell HL.out.wb 2).trans rfl; have c3 : w3.cell? ⟨w.heap.size, 3, none⟩ = some (.slice X.A3 X.l3.length X.c3) := (blk_cell HL.out.wb 3).trans rfl; have c4 : w3.cell? ⟨w.heap.size, 4, none⟩ = some (.slice X.A4 X.l4.length X.c4) := (blk_cell HL.out.wb 4).trans rfl; have c5 : w3.cell? ⟨w.heap.size, 5, none⟩ = some (.int .i64 X.x5) := (blk_cell HL.out.wb 5).trans rfl; have d0 : w3.cell? ⟨w2.heap.size, 0, none⟩ = some (.int .i64 pw) := (blk_cell HL.out.pb 0).trans rfl; have d1 : w3.cell? ⟨w2.heap.size, 1, none⟩ = some (.int .i64 pj) := (blk_cell HL.out.pb 1).trans rfl; have d2 : w3.cell? ⟨w2.heap.size, 2, none⟩ = some (.int .i64 pr) := (blk_cell HL.out.pb 2).trans rfl; clear hL hb HX HX1 HX2 HQ2 HV2 HV0))
  go_loopw [9] (fun i wr => ∃ (k : Nat) (m : Mach), i = .int .i64 k ∧ Law w wr (fun _ => False) X w.heap.size w2.heap.size pw pj pr (.slice A xs.length c) xs g m ∧ m.stopped = false ∧ m.picks = k) (fun i _ => 1004011 - (intOf i).toNat)
  case atStart => exact ⟨0, _, rfl, HL.out, rfl, rfl⟩
  case round =>
    obtain ⟨k, m, rfl, hL, hs, hk⟩ := hrel
    clear HL c0 c1 c2 c3 c4 c5 d0 d1 d2 HB HB1 HB2
    have HL := Aside0.mk hL
    have HS := Aside0.mk hs
    have HK := Aside0.mk hk
    have c0 : wr.cell? ⟨w.heap.size, 0, none⟩ = some (.int .i64 X.x0) := (blk_cell HL.out.wb 0).trans rfl
    have c1 : wr.cell? ⟨w.heap.size, 1, none⟩ = some (.int .i64 X.x1) := (blk_cell HL.out.wb 1).trans rfl
    have c2 : wr.cell? ⟨w.heap.size, 2, none⟩ = some (.int .i64 X.x2) := (blk_cell HL.out.wb 2).trans rfl
    have c3 : wr.cell? ⟨w.heap.size, 3, none⟩ = some (.slice X.A3 X.l3.length X.c3) := (blk_cell HL.out.wb 3).trans rfl
    have c4 : wr.cell? ⟨w.heap.size, 4, none⟩ = some (.slice X.A4 X.l4.length X.c4) := (blk_cell HL.out.wb 4).trans rfl
    have c5 : wr.cell? ⟨w.heap.size, 5, none⟩ = some (.int .i64 X.x5) := (blk_cell HL.out.wb 5).trans rfl
    have d0 : wr.cell? ⟨w2.heap.size, 0, none⟩ = some (.int .i64 pw) := (blk_cell HL.out.pb 0).trans rfl
    have d1 : wr.cell? ⟨w2.heap.size, 1, none⟩ = some (.int .i64 pj) := (blk_cell HL.out.pb 1).trans rfl
    have d2 : wr.cell? ⟨w2.heap.size, 2, none⟩ = some (.int .i64 pr) := (blk_cell HL.out.pb 2).trans rfl
    have hr := (hL.run.inv.run hs).2.2
    have hbl := bound_le hL.run.inv.ok
    by_cases hlt : (k : Int) < boundOf m
    · have q0 : decide ((k : Int) < boundOf m) = true := decide_eq_true hlt
      have q1 := eq_true hlt
      have hd : doneOf m = false := by
        cases h : doneOf m
        · rfl
        · have := (done_rem hL.run.inv hs h).1
          omega
      have HOK := Aside0.mk hL.run.inv.ok
      have HNE := Aside0.mk (progress hL.run.inv hd)
      have HI := Aside0.mk (show (0 : Int) ≤ (k : Int) by omega)
      have hkb : (k : Int) ≤ 1004010 := by omega
      have HKB := Aside0.mk hlt
      have HBL := Aside0.mk hbl
      clear hL hs hk hr hbl hlt
      go_wp2_with (first | (go_at_call 25; (with_reducible refine (l_bound HL.out HP.out HLN.out HJS.out).mono ?_); rintro e wa ⟨rfl, hL, hb⟩; clear HL; have HL := Aside0.mk hL; clear c0 c1 c2 c3 c4 c5 d0 d1 d2; have c0 : wa.cell? ⟨w.heap.size, 0, none⟩ = some (.int .i64 X.x0) := (blk_cell HL.out.wb 0).trans rfl; have c1 : wa.cell? ⟨w.heap.size, 1, none⟩ = some (.int .i64 X.x1) := (blk_cell HL.out.wb 1).trans rfl; have c2 : wa.cell? ⟨w.heap.size, 2, none⟩ = some (.int .i64 X.x2) := (blk_cell HL.out.wb 2).trans rfl; have c3 : wa.cell? ⟨w.heap.size, 3, none⟩ = some (.slice X.A3 X.l3.length X.c3) := (blk_cell HL.out.wb 3).trans rfl; have c4 : wa.cell? ⟨w.heap.size, 4, none⟩ = some (.slice X.A4 X.l4.length X.c4) := (blk_cell HL.out.wb 4).trans rfl; have c5 : wa.cell? ⟨w.heap.size, 5, none⟩ = some (.int .i64 X.x5) := (blk_cell HL.out.wb 5).trans rfl; have d0 : wa.cell? ⟨w2.heap.size, 0, none⟩ = some (.int .i64 pw) := (blk_cell HL.out.pb 0).trans rfl; have d1 : wa.cell? ⟨w2.heap.size, 1, none⟩ = some (.int .i64 pj) := (blk_cell HL.out.pb 1).trans rfl; have d2 : wa.cell? ⟨w2.heap.size, 2, none⟩ = some (.int .i64 pr) := (blk_cell HL.out.pb 2).trans rfl; clear hL hb) | (go_at_call 17; (with_reducible refine (l_done HL.out).mono ?_); rintro e wb ⟨rfl, hL, hb⟩; clear HL; have HL := Aside0.mk hL; clear c0 c1 c2 c3 c4 c5 d0 d1 d2; have c0 : wb.cell? ⟨w.heap.size, 0, none⟩ = some (.int .i64 X.x0) := (blk_cell HL.out.wb 0).trans rfl; have c1 : wb.cell? ⟨w.heap.size, 1, none⟩ = some (.int .i64 X.x1) := (blk_cell HL.out.wb 1).trans rfl; have c2 : wb.cell? ⟨w.heap.size, 2, none⟩ = some (.int .i64 X.x2) := (blk_cell HL.out.wb 2).trans rfl; have c3 : wb.cell? ⟨w.heap.size, 3, none⟩ = some (.slice X.A3 X.l3.length X.c3) := (blk_cell HL.out.wb 3).trans rfl; have c4 : wb.cell? ⟨w.heap.size, 4, none⟩ = some (.slice X.A4 X.l4.length X.c4) := (blk_cell HL.out.wb 4).trans rfl; have c5 : wb.cell? ⟨w.heap.size, 5, none⟩ = some (.int .i64 X.x5) := (blk_cell HL.out.wb 5).trans rfl; have d0 : wb.cell? ⟨w2.heap.size, 0, none⟩ = some (.int .i64 pw) := (blk_cell HL.out.pb 0).trans rfl; have d1 : wb.cell? ⟨w2.heap.size, 1, none⟩ = some (.int .i64 pj) := (blk_cell HL.out.pb 1).trans rfl; have d2 : wb.cell? ⟨w2.heap.size, 2, none⟩ = some (.int .i64 pr) := (blk_cell HL.out.pb 2).trans rfl; clear hL hb) | (go_at_call 20; (with_reducible refine (l_at HL.out HXW.out _ HI.out).mono ?_); rintro e wc ⟨r, rfl, hL, hb⟩; clear HL; have HL := Aside0.mk hL; clear c0 c1 c2 c3 c4 c5 d0 d1 d2; have c0 : wc.cell? ⟨w.heap.size, 0, none⟩ = some (.int .i64 X.x0) := (blk_cell HL.out.wb 0).trans rfl; have c1 : wc.cell? ⟨w.heap.size, 1, none⟩ = some (.int .i64 X.x1) := (blk_cell HL.out.wb 1).trans rfl; have c2 : wc.cell? ⟨w.heap.size, 2, none⟩ = some (.int .i64 X.x2) := (blk_cell HL.out.wb 2).trans rfl; have c3 : wc.cell? ⟨w.heap.size, 3, none⟩ = some (.slice X.A3 X.l3.length X.c3) := (blk_cell HL.out.wb 3).trans rfl; have c4 : wc.cell? ⟨w.heap.size, 4, none⟩ = some (.slice X.A4 X.l4.length X.c4) := (blk_cell HL.out.wb 4).trans rfl; have c5 : wc.cell? ⟨w.heap.size, 5, none⟩ = some (.int .i64 X.x5) := (blk_cell HL.out.wb 5).trans rfl; have d0 : wc.cell? ⟨w2.heap.size, 0, none⟩ = some (.int .i64 pw) := (blk_cell HL.out.pb 0).trans rfl; have d1 : wc.cell? ⟨w2.heap.size, 1, none⟩ = some (.int .i64 pj) := (blk_cell HL.out.pb 1).trans rfl; have d2 : wc.cell? ⟨w2.heap.size, 2, none⟩ = some (.int .i64 pr) := (blk_cell HL.out.pb 2).trans rfl; clear hL hb) | (go_at_call 19; (with_reducible refine (l_pickv HL.out _ HNE.out).mono ?_); rintro e wd ⟨z0, z1, z2, z3, rfl, hz, hL, hb⟩; have HL2 := Aside0.mk (hL.pass (below_alloc (Below.refl _ _) (.cells #[.int .i64 z0, .int .i64 z1, .int .i64 z2, .int .i64 z3] 42))); clear HL hL hb hz; clear c0 c1 c2 c3 c4 c5 d0 d1 d2))
      go_roundw
      case rel =>
        exact ⟨k + 1, step m (picked m r), by go_num, HL2.out, (kind_bound (kind_of_mem HOK.out (picked_mem r HNE.out))).2.2.1.trans HS.out, by rw [(kind_bound (kind_of_mem HOK.out (picked_mem r HNE.out))).2.2.2.1, HK.out]; rfl⟩
      case measure => have := HKB.out; have := HBL.out; simp [intOf]; omega
    · have q0 : decide ((k : Int) < boundOf m) = false := decide_eq_false hlt
      have q1 := eq_false hlt
      have hd : doneOf m = true := by
        cases h : doneOf m
        · have := rem_pos hL.run.inv.ok h
          omega
        · rfl
      have HR := Aside0.mk (done_rem hL.run.inv hs hd)
      have HGT := Aside0.mk (got_facts hL.run.inv)
      have HME := Aside0.mk (full_meas hL.run.inv hs hd)
      have HJ := Aside0.mk hL.eq.1
      have hn60 : xs.length ≤ 60 := HLN.out
      have HGL := Aside0.mk (show m.got.length = xs.length by rw [HR.out.2.2.2.2.2.2, HJ.out])
      have hmk : ∀ W, (Instr.makeSlice 66 (.int .i64 (xs.length : Int)) (.int .i64 (xs.length : Int))).run Try.prog W = .ok (.slice (some ⟨W.heap.size, 0, none⟩) xs.length xs.length) (W.alloc (.cells (madeCells #[.bool false] xs.length) 4)) := print_make_of 66 4 (.bool false) 1 Try.underlying66 (by kernel_rfl) rfl (by decide) xs.length (by omega)
      clear hL hs hk hr hbl hlt
      go_wp2_with (first | (go_at_call 25; (with_reducible refine (l_bound HL.out HP.out HLN.out HJS.out).mono ?_); rintro e wa ⟨rfl, hL, hb⟩; clear HL; have HL := Aside0.mk (own_seen hL xs.length); have HSN := Aside0.mk (heap_alloc_new wa (.cells (madeCells #[.bool false] xs.length) 4)); obtain ⟨sa, hsa⟩ : ∃ sa : Addr, (⟨wa.heap.size, 0, none⟩ : Addr) = sa := ⟨_, rfl⟩; have HSA := Aside0.mk hsa; have HFAR := Aside0.mk (own_far hL); have hmk1 := hmk wa; rw [hsa] at hmk1; clear hmk hsa hL hb; clear c0 c1 c2 c3 c4 c5 d0 d1 d2) | (go_at_call 26; (with_reducible refine (l_got HL.out).mono ?_); rintro e wb ⟨A2, c2, rfl, ho, hL, hb⟩; rw [HGL.out] at ho ⊢; clear HL; have HL := Aside0.mk hL; have HV := Aside0.mk (Own.of rfl ho); have HVB := Aside0.mk (fun k (hk : some k = (Value.slice A2 xs.length c2).ownBlock) => Kd.R_base ho k hk.symm); have HSN2 := Aside0.mk ((hb.block _ (blk_lt HSN.out)).trans HSN.out); clear ho hL hb))
      go_loopw [14] (fun i wr => ∃ k : Nat, i = .int .i64 k ∧ k ≤ xs.length ∧ Law w wr (fun k => k = wa.heap.size) X w.heap.size w2.heap.size pw pj pr (.slice A xs.length c) xs g m ∧ wr.heap[wa.heap.size]? = some (.cells (seenC xs.length (m.got.take k)) 4 (0, 0)) ∧ Own (Kd.int .i64) 3 wr (.slice A2 xs.length c2) m.got) (fun i _ => xs.length - (intOf i).toNat)
      case atStart => exact ⟨0, rfl, Nat.zero_le _, HL.out, by rw [List.take_zero, ← seenC_made]; exact HSN2.out, HV.out⟩
      case round =>
        obtain ⟨k, rfl, hk, hL, hse, hv⟩ := hrel
        clear HL HV HSN2
        have HL := Aside0.mk hL
        have HV := Aside0.mk hv
        have HSN2 := Aside0.mk hse
        clear hL hse hv
        by_cases hlt : k < xs.length
        · have p0 : decide ((k : Int) < (xs.length : Int)) = true := decide_eq_true (by omega)
          have p1 := eq_true (show (k : Int) < (xs.length : Int) by omega)
          have hkg : k < m.got.length := by have := HGL.out; omega
          obtain ⟨ad, ead, hy⟩ := Kd.at_int (Kd.R_reads' HV.out).2.2 k (Int.natCast_nonneg _) (by omega)
          subst ead
          rw [Int.toNat_natCast, rd_take hkg] at hy
          have hgk := HGT.out.2 _ (List.getElem_mem hkg)
          obtain ⟨j, hj⟩ : ∃ j : Nat, m.got[k] = (j : Int) := ⟨_, (Int.toNat_of_nonneg hgk.1).symm⟩
          have hni := Aside0.mk (nodup_take HGT.out.1 hkg)
          rw [hj] at hy hgk hni
          have hjn : j < xs.length := by have := HJ.out; rw [this] at hgk; omega
          have y0 : decide ((j : Int) < 0) = false := decide_eq_false (by omega)
          have y1 : decide ((xs.length : Int) ≤ (j : Int)) = false := decide_eq_false (by omega)
          have y2 : wr.cell? (sa.add j) = some (.bool false) := by
            rw [← HSA.out]
            rw [addr_add0, (blk_cell HSN2.out j).trans (seenC_at _ hjn), decide_eq_false hni.out]
          have y3 := eq_false (show ¬ xs.length ≤ j by omega)
          have y4 : wr.frozen? (sa.add j) = false := by rw [← HSA.out, addr_add0]; exact blk_frozen HSN2.out j
          have HTK := Aside0.mk (show m.got.take (k + 1) = m.got.take k ++ [(j : Int)] by rw [List.take_succ_eq_append_getElem hkg, hj])
          have HK1 := Aside0.mk hlt
          have hkb : (k : Int) ≤ 60 := by omega
          clear hgk hj hn60 hlt hk hkg
          go_wp2
          go_roundw
          case rel =>
            rw [← HSA.out, addr_add0]
            refine ⟨k + 1, by go_num, HK1.out, HL.out.write (Kept.setCell (S := fun k => k = wa.heap.size) (Kept.refl _ _) (p := ⟨wa.heap.size, j, none⟩) (.inl rfl) _) HFAR.out rfl rfl rfl, ?_, HV.out.at_ (fun k' hk' _ => Below.heap_setCell _ _ _ _ (fun e => ?_))⟩
            · rw [HTK.out, ← seenC_set _ hjn]
              exact blk_set HSN2.out j _
            · have := HVB.out k' hk'
              have h2 := blk_lt HSN.out
              simp only [] at e
              omega
          case measure => have := HK1.out; simp [intOf]; omega
        · have p0 : decide ((k : Int) < (xs.length : Int)) = false := decide_eq_false (by omega)
          have p1 := eq_false (show ¬ (k : Int) < (xs.length : Int) by omega)
          obtain ⟨-, hse, hgi, -, -, hou, -⟩ := HR.out
          have HSE := Aside0.mk hse
          have HGI := Aside0.mk hgi
          have HOU := Aside0.mk hou
          clear hse hgi hou hlt hk hn60
          go_wp2_with (first | (go_at_call 23; (with_reducible refine (l_waiting HL.out).mono ?_); rintro e wc ⟨A3, c3, A4, c4, rfl, -, -, -, -, hL, hb⟩; rw [HSE.out, HGI.out]; clear HL; have HL := Aside0.mk hL; clear hL hb) | (go_at_call 17; (with_reducible refine (l_done HL.out).mono ?_); rintro e wd ⟨rfl, hL, hb⟩; clear HL; have HL := Aside0.mk hL; clear hL hb) | (go_at_call 27; (with_reducible refine (r_outcome HL.out.run).mono ?_); rintro e we ⟨rfl, hw⟩; subst hw; rw [HOU.out]) | (go_at_call 32; (with_reducible refine (l_measure HL.out).mono ?_); rintro e wf ⟨rfl, hL, hb⟩; rw [HME.out]; unfold Meas.v; clear HL; have HL := Aside0.mk hL; clear hL hb))
          go_ret
          exact ⟨rfl, HL.out.run.bel⟩
end Go.Proofs.Ythcchpbidbbiaaa.Sc
namespace Go.Proofs.Ythcchpbidbbiaaa.schedFull
open Go.ChangeShapes Go.WideShapes Go.ChangeAt Go.RowKit Go.Joins
open Go.Proofs.YthcchpbidbbiaaaW
set_option linter.unusedVariables false
theorem own : ownKnob Try.prog.godebug = none := by kernel_rfl
theorem laidOut : laidOutB Try.prog = true := by kernel_rfl
set_option maxRecDepth 100000 in
theorem lifted (os : Os) (started : os.Started) (H : Type) (enc : TypeId × Value → H) :
    ReturnsInHanded {} Try.checked os 7 .any (Rows.schedFullSpec.pre6 enc Try.prog Try.f7 Rows.schedFullRow.domain false) (Rows.schedFullSpec.post enc Try.prog Try.f7 false true false false) := by
  refine returnsInHanded_of_change_sized (C := Try.checked) own started (by kernel_rfl) Try.func7
    (ChangeSpec.witness6 (enc := enc) (C := Try.checked) false ⟨#[], #[.agg #[.int .i64 0, .int .i64 0, .int .i64 0, .slice none 0 0, .slice none 0 0, .int .i64 0]], []⟩ 8 (by kernel_rfl) (by kernel_rfl) (by kernel_rfl) (by kernel_rfl)) ?_
  intro W base args ds gs before hval0 hW hcnd hsz0 _
  have hval : ∀ (j : Nat) t v, Try.f7.params[j]? = some t → args[j]? = some v → Value.okWide Try.prog W .any base t v := hval0
  have hW' := hW
  obtain ⟨p, q, hA0, hV, rfl, hfz, hnd⟩ := hW
  have hA : DataW.TrodAll enc Try.prog W 0 (fun _ => true) true Try.f7.params.toList args.toList ds p := hA0
  rw [Try.params7] at hA hval
  obtain ⟨v0, vs0, d0, ds0, p0, q0, hargs, rfl, rfl, h0, r0⟩ := trodAll_cons hA
  obtain ⟨rfl, rfl, rfl⟩ := trodAll_nil r0
  obtain rfl : args = #[v0] := by cases args; simp_all
  obtain ⟨rfl, rfl⟩ := trodVars_none hV
  have k0 := h0
  have lt0 : ∀ x ∈ p0, x.block < W.heap.size := by obtain ⟨m, hm⟩ := k0; exact DataW.trod_lt m _ _ _ hm
  obtain ⟨X, rfl, hX⟩ := Sc.work_open (fun _ => rfl) (hval 0 37 v0 rfl rfl) h0
  clear hA0 hval0 hsz0
  refine (Sc.full_walk X W hX).mono fun e W' ⟨he, bel⟩ => ?_
  subst he
  exact ⟨_, rfl, _, _, _, [], _, [], hW', trodAll_mk1 (shut_bool Try.underlying4 _), (trodAll_cons_mk (Below.trod laidOut (by kernel_rfl) (of_decide_eq_true (by kernel_rfl)) k0 bel lt0) trodAll_mk0), rfl, bel.frame _, fun h => by cases h⟩
theorem over : Rows.schedFullRow.holds Try.pinned (OpenSpec.ofChange Rows.schedFullSpec) :=
  OpenClaim.holds_of_wide 7 Try.f7 rfl rfl rfl rfl rfl rfl rfl ⟨rfl, rfl, rfl, rfl, rfl⟩ rfl rfl rfl rfl rfl (by kernel_rfl) Try.func7 (by kernel_rfl)
    (of_decide_eq_true (by kernel_rfl)) (by unfold Func.isWrapper; first | (rw [if_pos (by decide +kernel)]; kernel_rfl) | (rw [if_neg (by decide +kernel)]; exact ⟨rfl, rfl⟩))
    (fun os started H enc _ => lifted os started H enc)
theorem proved : Rows.SchedFullSaid := over
#print axioms proved
end Go.Proofs.Ythcchpbidbbiaaa.schedFull
namespace Go.Proofs.Ythcchpbidbbiaaa
/-- The row, under a short name, for the claim. -/
theorem schedFull_holds : Rows.SchedFullSaid := schedFull.proved
end Go.Proofs.Ythcchpbidbbiaaa
