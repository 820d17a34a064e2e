/- Proved: for every Work x, SchedEnds returns true: no condition. -/
import Derived.Test.YthcchpbidbbiaaaScg
import Derived.Test.YthcchpbidbbiaaaRows
import Derived.WalkKit
import Derived.ProofKit
import Derived.OpenShut
import Derived.ShutString
import Derived.ChangeOld
import Derived.Below
import Derived.SizedLaws
import Derived.Lib.SmallJoins
namespace Go.Proofs.Ythcchpbidbbiaaa.Sc
open Go.RowKit Go.Proofs.YthcchpbidbbiaaaW.PrintWords Go.Proofs.YthcchpbidbbiaaaW.PrintLast Go.Proofs.YthcchpbidbbiaaaW.PrintMore Go.Proofs.Ythcchpbidbbiaaa.PSchedSide
set_option linter.unusedVariables false
set_option linter.unusedSimpArgs false
theorem step_facts {m : Mach} (hI : Inv m) (hx : mvs m ≠ []) (r : Int) : (step m (picked m r)).picks = m.picks + 1 ∧ (step m (picked m r)).stopped = m.stopped ∧ lessM (measOf (step m (picked m r))) (measOf m) ∧ boundOf (step m (picked m r)) = boundOf m := by
  have hk := kind_of_mem hI.ok (picked_mem r hx)
  have h := kind_bound hk
  exact ⟨h.2.2.2.1, h.2.2.1, kind_less hI.ok hk, h.1⟩
theorem new_meas {pw pj pr : Int} {xs : List Int} (hp : PoolOk pw pj pr) : measOf (newM pw pj pr xs pw.toNat) = ⟨xs.length, xs.length, 0, pw + 2, 0⟩ := by
  rw [measOf_eq]
  have h1 : und (newM pw pj pr xs pw.toNat) = xs.length := by simp [und, newM]
  have h2 : ∀ k, aliveW (newW k) = k ∧ stepsW (newW k) = 0 := by
    intro k
    induction k with
    | zero => exact ⟨rfl, rfl⟩
    | succ k ih =>
      have e : newW (k + 1) = ⟨⟨1, 0, 0⟩⟩ :: newW k := by simp [newW, List.replicate_succ]
      rw [e]
      simp only [aliveW, stepsW, List.map_cons, List.sum_cons] at ih ⊢
      constructor
      · rw [if_neg (by decide)]; omega
      · omega
  have h3 : (newM pw pj pr xs pw.toNat).workers = newW pw.toNat := rfl
  rw [h1, h3, (h2 _).1, (h2 _).2]
  simp only [newM]
  obtain ⟨⟨h4, h5⟩, _⟩ := hp
  simp
  omega
set_option maxHeartbeats 16000000 in
set_option maxRecDepth 1000000 in
theorem ends_walk (X : Raw) (w : World) (hX : X.In w) : Calls Try.prog 8 #[.agg #[.int .i64 X.x0, .int .i64 X.x1, .int .i64 X.x2, .slice X.A3 X.l3.length X.c3, .slice X.A4 X.l4.length X.c4, .int .i64 X.x5]] w fun e w' => e = .returned (.bool true) ∧ Below w.heap.size w w' := by
  have HB := Aside0.mk (below_alloc (Below.refl w.heap.size w) (.cells (wcells X) 37))
  have HX := Aside0.mk (heap_alloc_new w (.cells (wcells X) 37))
  have HXW := Aside0.mk hX
  clear hX
  go_enter Try.func8, Try.ntmps8
  go_wp2_with (first | (go_at_call 12; (with_reducible refine (awake_calls _).mono ?_); rintro e w1 ⟨rfl, hb⟩; have HB1 := Aside0.mk (HB.out.trans (hb.mono HB.out.size)); have HX1 := Aside0.mk ((hb.block _ (blk_lt HX.out)).trans HX.out); have HXI := Aside0.mk (HXW.out.below HB1.out); have c0 : w1.cell? ⟨w.heap.size, 0, none⟩ = some (.int .i64 X.x0) := (blk_cell HX1.out 0).trans rfl; have c1 : w1.cell? ⟨w.heap.size, 1, none⟩ = some (.int .i64 X.x1) := (blk_cell HX1.out 1).trans rfl; have c2 : w1.cell? ⟨w.heap.size, 2, none⟩ = some (.int .i64 X.x2) := (blk_cell HX1.out 2).trans rfl; have c3 : w1.cell? ⟨w.heap.size, 3, none⟩ = some (.slice X.A3 X.l3.length X.c3) := (blk_cell HX1.out 3).trans rfl; have c4 : w1.cell? ⟨w.heap.size, 4, none⟩ = some (.slice X.A4 X.l4.length X.c4) := (blk_cell HX1.out 4).trans rfl; have c5 : w1.cell? ⟨w.heap.size, 5, none⟩ = some (.int .i64 X.x5) := (blk_cell HX1.out 5).trans rfl; clear hb) | (go_at_call 16; (with_reducible refine (l_plain X HXI.out).mono ?_); rintro e w2 ⟨pw, pj, pr, A, c, xs, rfl, hp, hl, hj, hr, hb⟩; have HP := Aside0.mk hp; have HLN := Aside0.mk hl; have HJS := Aside0.mk hj; have HB2 := Aside0.mk (below_alloc (HB1.out.trans (hb.mono HB1.out.size)) (.cells #[.int .i64 pw, .int .i64 pj, .int .i64 pr] 23)); have HX2 := Aside0.mk (blk_alloc ((hb.block _ (blk_lt HX1.out)).trans HX1.out) (.cells #[.int .i64 pw, .int .i64 pj, .int .i64 pr] 23)); have HQ2 := Aside0.mk (heap_alloc_new w2 (.cells #[.int .i64 pw, .int .i64 pj, .int .i64 pr] 23)); have HV2 := Aside0.mk (Own.of rfl (Kd.R_alloc hr (.cells #[.int .i64 pw, .int .i64 pj, .int .i64 pr] 23))); have HW1 := Aside0.mk (Nat.le_trans HB1.out.size hb.size); have HV0 := Aside0.mk (fun k (hk : some k = (Value.slice A xs.length c).ownBlock) => Nat.le_trans HB1.out.size (Kd.R_base hr k hk.symm)); clear c0 c1 c2 c3 c4 c5; clear hp hl hj hr hb) | (go_at_call 15; (with_reducible refine (l_new (b1 := w.heap.size) (b4 := w2.heap.size) X A c HB2.out HP.out HLN.out HJS.out HX2.out (Nat.le_refl _) HQ2.out HW1.out HV2.out HV0.out).mono ?_); rintro e w3 ⟨g, rfl, hL, hb⟩; have HL := Aside0.mk hL; have c0 : w3.cell? ⟨w.heap.size, 0, none⟩ = some (.int .i64 X.x0) := (blk_cell HL.out.wb 0).trans rfl; have c1 : w3.cell? ⟨w.heap.size, 1, none⟩ = some (.int .i64 X.x1) := (blk_cell HL.out.wb 1).trans rfl; have c2 : w3.cell? ⟨w.heap.size, 2, none⟩ = some (.int .i64 X.x2) := (blk_cell HL.out.wb 2).trans rfl; have c3 : w3.cell? ⟨w.heap.size, 3, none⟩ = some (.slice X.A3 X.l3.length X.c3) := (blk_cell HL.out.wb 3).trans rfl; have c4 : w3.cell? ⟨w.heap.size, 4, none⟩ = some (.slice X.A4 X.l4.length X.c4) := (blk_cell HL.out.wb 4).trans rfl; have c5 : w3.cell? ⟨w.heap.size, 5, none⟩ = some (.int .i64 X.x5) := (blk_cell HL.out.wb 5).trans rfl; have d0 : w3.cell? ⟨w2.heap.size, 0, none⟩ = some (.int .i64 pw) := (blk_cell HL.out.pb 0).trans rfl; have d1 : w3.cell? ⟨w2.heap.size, 1, none⟩ = some (.int .i64 pj) := (blk_cell HL.out.pb 1).trans rfl; have d2 : w3.cell? ⟨w2.heap.size, 2, none⟩ = some (.int .i64 pr) := (blk_cell HL.out.pb 2).trans rfl; clear hL hb HX HX1 HX2 HQ2 HV2 HV0))
  clear c0 c1 c2 c3 c4 c5 d0 d1 d2
  obtain ⟨bd, hbd⟩ : ∃ bd, boundOf (newM pw pj pr xs pw.toNat) = bd := ⟨_, rfl⟩
  have n1_ := Aside0.mk (HL.out.pass (below_drew (Below.refl _ _)))
  clear HL
  have HL := n1_
  clear n1_
  refine start_ (n := 18) (S := fun w' => w'.heap[w2.heap.size]? = some (.cells #[.int .i64 pw, .int .i64 pj, .int .i64 pr] 23 (0, 0))) (ds := []) #[false, false, false, false, false, false, false, false, false, false, false, false, false, false, false, false, false, false] (by kernel_rfl) rfl rfl HL.out.pb (fun hHeld => ?_)
  generalize w3.drew = W at HL hHeld ⊢
  refine pure_ (i := 0) (N := (some 33)) (v := ?_) (a' := ?_) #[true, false, false, false, false, false, false, false, false, false, false, false, false, false, false, false, false, false] rfl rfl (by kernel_rfl) (fun _ _ _ h => h) (Or.inl ⟨by rfl, ?_⟩) ?_ ?_
  rotate_left
  · intro w'
    go_simp
    with_reducible rfl
  rotate_left
  · simp only [Act.put, List.setIfInBounds_toArray, List.set_cons_zero, List.set_cons_succ, i64_w, i32_w]
    rfl
  refine pure_ (i := 1) (N := (some 34)) (v := ?_) (a' := ?_) #[true, true, false, false, false, false, false, false, false, false, false, false, false, false, false, false, false, false] rfl rfl (by kernel_rfl) (fun _ _ _ h => h) (Or.inl ⟨by rfl, ?_⟩) ?_ ?_
  rotate_left
  · intro w'
    go_simp
    with_reducible rfl
  rotate_left
  · simp only [Act.put, List.setIfInBounds_toArray, List.set_cons_zero, List.set_cons_succ, i64_w, i32_w]
    rfl
  refine pure_ (i := 2) (N := (some 35)) (v := ?_) (a' := ?_) #[true, true, true, false, false, false, false, false, false, false, false, false, false, false, false, false, false, false] rfl rfl (by kernel_rfl) (fun _ _ _ h => h) (Or.inl ⟨by rfl, ?_⟩) ?_ ?_
  rotate_left
  · intro w'
    go_simp
    with_reducible rfl
  rotate_left
  · simp only [Act.put, List.setIfInBounds_toArray, List.set_cons_zero, List.set_cons_succ, i64_w, i32_w]
    rfl
  refine pure_ (i := 3) (N := (some 36)) (v := ?_) (a' := ?_) #[true, true, true, true, false, false, false, false, false, false, false, false, false, false, false, false, false, false] rfl rfl (by kernel_rfl) (fun _ _ _ h => h) (Or.inl ⟨by rfl, ?_⟩) ?_ ?_
  rotate_left
  · intro w'
    go_simp
    with_reducible rfl
  rotate_left
  · simp only [Act.put, List.setIfInBounds_toArray, List.set_cons_zero, List.set_cons_succ, i64_w, i32_w]
    rfl
  refine pure_ (i := 4) (N := (some 37)) (v := ?_) (a' := ?_) #[true, true, true, true, true, false, false, false, false, false, false, false, false, false, false, false, false, false] rfl rfl (by kernel_rfl) (fun _ _ _ h => h) (Or.inl ⟨by rfl, ?_⟩) ?_ ?_
  rotate_left
  · intro w'
    go_simp
    with_reducible rfl
  rotate_left
  · simp only [Act.put, List.setIfInBounds_toArray, List.set_cons_zero, List.set_cons_succ, i64_w, i32_w]
    rfl
  refine pure_ (i := 5) (N := (some 38)) (v := ?_) (a' := ?_) #[true, true, true, true, true, true, false, false, false, false, false, false, false, false, false, false, false, false] rfl rfl (by kernel_rfl) (fun _ _ _ h => h) (Or.inl ⟨by rfl, ?_⟩) ?_ ?_
  rotate_left
  · intro w'
    go_simp
    with_reducible rfl
  rotate_left
  · simp only [Act.put, List.setIfInBounds_toArray, List.set_cons_zero, List.set_cons_succ, i64_w, i32_w]
    rfl
  refine pure_ (i := 6) (N := (some 39)) (v := ?_) (a' := ?_) #[true, true, true, true, true, true, true, false, false, false, false, false, false, false, false, false, false, false] rfl rfl (by kernel_rfl) (fun _ _ _ h => h) (Or.inl ⟨by rfl, ?_⟩) ?_ ?_
  rotate_left
  · intro w'
    go_simp
    with_reducible rfl
  rotate_left
  · simp only [Act.put, List.setIfInBounds_toArray, List.set_cons_zero, List.set_cons_succ, i64_w, i32_w]
    rfl
  refine pure_ (i := 7) (N := (some 40)) (v := ?_) (a' := ?_) #[true, true, true, true, true, true, true, true, false, false, false, false, false, false, false, false, false, false] rfl rfl (by kernel_rfl) (fun _ _ _ h => h) (Or.inl ⟨by rfl, ?_⟩) ?_ ?_
  rotate_left
  · intro w'
    go_simp
    with_reducible rfl
  rotate_left
  · simp only [Act.put, List.setIfInBounds_toArray, List.set_cons_zero, List.set_cons_succ, i64_w, i32_w]
    rfl
  refine pure_ (i := 8) (N := (some 41)) (v := ?_) (a' := ?_) #[true, true, true, true, true, true, true, true, true, false, false, false, false, false, false, false, false, false] rfl rfl (by kernel_rfl) (fun _ _ _ h => h) (Or.inl ⟨by rfl, ?_⟩) ?_ ?_
  rotate_left
  · intro w'
    go_simp
    with_reducible rfl
  rotate_left
  · simp only [Act.put, List.setIfInBounds_toArray, List.set_cons_zero, List.set_cons_succ, i64_w, i32_w]
    rfl
  refine pure_ (i := 9) (N := (some 42)) (v := ?_) (a' := ?_) #[true, true, true, true, true, true, true, true, true, true, false, false, false, false, false, false, false, false] rfl rfl (by kernel_rfl) (fun _ _ _ h => h) (Or.inl ⟨by rfl, ?_⟩) ?_ ?_
  rotate_left
  · intro w'
    go_simp
    with_reducible rfl
  rotate_left
  · simp only [Act.put, List.setIfInBounds_toArray, List.set_cons_zero, List.set_cons_succ, i64_w, i32_w]
    rfl
  refine pure_ (i := 10) (N := (some 43)) (v := ?_) (a' := ?_) #[true, true, true, true, true, true, true, true, true, true, true, false, false, false, false, false, false, false] rfl rfl (by kernel_rfl) (fun _ _ _ h => h) (Or.inl ⟨by rfl, ?_⟩) ?_ ?_
  rotate_left
  · intro w'
    go_simp
    with_reducible rfl
  rotate_left
  · simp only [Act.put, List.setIfInBounds_toArray, List.set_cons_zero, List.set_cons_succ, i64_w, i32_w]
    rfl
  refine pure_ (i := 11) (N := (some 44)) (v := ?_) (a' := ?_) #[true, true, true, true, true, true, true, true, true, true, true, true, false, false, false, false, false, false] rfl rfl (by kernel_rfl) (fun _ _ _ h => h) (Or.inl ⟨by rfl, ?_⟩) ?_ ?_
  rotate_left
  · intro w'
    go_simp
    with_reducible rfl
  rotate_left
  · simp only [Act.put, List.setIfInBounds_toArray, List.set_cons_zero, List.set_cons_succ, i64_w, i32_w]
    rfl
  refine pure_ (i := 14) (N := (some 47)) (v := ?_) (a' := ?_) #[true, true, true, true, true, true, true, true, true, true, true, true, false, false, true, false, false, false] rfl rfl (by kernel_rfl) (fun _ _ _ h => h) (Or.inl ⟨by rfl, ?_⟩) ?_ ?_
  rotate_left
  · intro w'
    go_simp
    with_reducible rfl
  rotate_left
  · simp only [Act.put, List.setIfInBounds_toArray, List.set_cons_zero, List.set_cons_succ, i64_w, i32_w]
    rfl
  refine take_ (i := 13) (N := (some 46)) (v := ?_) (a' := ?_) #[true, true, true, true, true, true, true, true, true, true, true, true, false, true, true, false, false, false] rfl rfl (by kernel_rfl) (fun _ _ _ h => h) (Or.inl ⟨by rfl, ?_⟩) hHeld ?_ ?_
  rotate_left
  · rintro w' s0
    have t0 : w'.cell? ⟨w2.heap.size, 0, none⟩ = some (.int .i64 pw) := (blk_cell s0 0).trans rfl
    have t1 : w'.cell? ⟨w2.heap.size, 1, none⟩ = some (.int .i64 pj) := (blk_cell s0 1).trans rfl
    have t2 : w'.cell? ⟨w2.heap.size, 2, none⟩ = some (.int .i64 pr) := (blk_cell s0 2).trans rfl
    go_simp
    with_reducible rfl
  rotate_left
  · simp only [Act.put, List.setIfInBounds_toArray, List.set_cons_zero, List.set_cons_succ, i64_w, i32_w]
    rfl
  refine one_ (i := 12) (N := (some 45)) #[true, true, true, true, true, true, true, true, true, true, true, true, true, true, true, false, false, false] rfl rfl (by kernel_rfl) (by decide) (fun K hK => ?_)
  refine goes_ Try.func33 (by kernel_rfl) rfl #[ptr g] (by rfl) rfl rfl (by simp only [List.map_toArray, List.map_cons, List.map_nil]; rfl) ?_
  refine (l_mbound HL.out).mono ?_
  rintro e w4 ⟨rfl, hL, hb⟩
  refine ⟨_, rfl, ?_⟩
  clear HL
  have HL := Aside0.mk hL
  clear hL hb
  refine hK.out _ _ HL.out.pb (fun hHeld => ?_)
  clear hK K
  refine norm_ (a' := ?_) ?_ ?_
  rotate_left
  · show Act.put _ (some 45) _ = _
    simp only [Act.put, List.setIfInBounds_toArray, List.set_cons_zero, List.set_cons_succ, i64_w, i32_w]
    rfl
  refine one_ (i := 15) (N := (some 48)) #[true, true, true, true, true, true, true, true, true, true, true, true, true, true, true, true, false, false] rfl rfl (by kernel_rfl) (by decide) (fun K hK => ?_)
  refine goes_ Try.func25 (by kernel_rfl) rfl #[.agg #[.int .i64 pw, .int .i64 pj, .int .i64 pr], .slice A xs.length c] (by rfl) rfl rfl (by simp only [List.map_toArray, List.map_cons, List.map_nil]; rfl) ?_
  refine (l_bound HL.out HP.out HLN.out HJS.out).mono ?_
  rintro e w5 ⟨rfl, hL, hb⟩
  refine ⟨_, rfl, ?_⟩
  clear HL
  have HL := Aside0.mk hL
  clear hL hb
  refine hK.out _ _ HL.out.pb (fun hHeld => ?_)
  clear hK K
  refine norm_ (a' := ?_) ?_ ?_
  rotate_left
  · show Act.put _ (some 48) _ = _
    simp only [Act.put, List.setIfInBounds_toArray, List.set_cons_zero, List.set_cons_succ, i64_w, i32_w]
    rfl
  refine pure_ (i := 16) (N := (some 49)) (v := ?_) (a' := ?_) #[true, true, true, true, true, true, true, true, true, true, true, true, true, true, true, true, true, false] rfl rfl (by kernel_rfl) (fun _ _ _ h => h) (Or.inl ⟨by rfl, ?_⟩) ?_ ?_
  rotate_left
  · intro w'
    go_simp
    with_reducible rfl
  rotate_left
  · simp only [Act.put, List.setIfInBounds_toArray, List.set_cons_zero, List.set_cons_succ, i64_w, i32_w]
    rfl
  refine pure_ (i := 17) (N := (some 50)) (v := ?_) (a' := ?_) #[true, true, true, true, true, true, true, true, true, true, true, true, true, true, true, true, true, true] rfl rfl (by kernel_rfl) (fun _ _ _ h => h) (Or.inl ⟨by rfl, ?_⟩) ?_ ?_
  rotate_left
  · intro w'
    go_simp
    with_reducible rfl
  rotate_left
  · simp only [Act.put, List.setIfInBounds_toArray, List.set_cons_zero, List.set_cons_succ, i64_w, i32_w]
    rfl
  refine done_ (by kernel_rfl) ?_
  have HNM := Aside0.mk (new_meas (xs := xs) HP.out)
  have hpw : 1 ≤ pw ∧ pw ≤ 8 := HP.out.1
  have c0 : w5.cell? ⟨w.heap.size, 0, none⟩ = some (.int .i64 X.x0) := (blk_cell HL.out.wb 0).trans rfl
  have c1 : w5.cell? ⟨w.heap.size, 1, none⟩ = some (.int .i64 X.x1) := (blk_cell HL.out.wb 1).trans rfl
  have c2 : w5.cell? ⟨w.heap.size, 2, none⟩ = some (.int .i64 X.x2) := (blk_cell HL.out.wb 2).trans rfl
  have c3 : w5.cell? ⟨w.heap.size, 3, none⟩ = some (.slice X.A3 X.l3.length X.c3) := (blk_cell HL.out.wb 3).trans rfl
  have c4 : w5.cell? ⟨w.heap.size, 4, none⟩ = some (.slice X.A4 X.l4.length X.c4) := (blk_cell HL.out.wb 4).trans rfl
  have c5 : w5.cell? ⟨w.heap.size, 5, none⟩ = some (.int .i64 X.x5) := (blk_cell HL.out.wb 5).trans rfl
  have d0 : w5.cell? ⟨w2.heap.size, 0, none⟩ = some (.int .i64 pw) := (blk_cell HL.out.pb 0).trans rfl
  have d1 : w5.cell? ⟨w2.heap.size, 1, none⟩ = some (.int .i64 pj) := (blk_cell HL.out.pb 1).trans rfl
  have d2 : w5.cell? ⟨w2.heap.size, 2, none⟩ = some (.int .i64 pr) := (blk_cell HL.out.pb 2).trans rfl
  go_wp2_with (first | (go_at_call 32; (with_reducible refine (l_measurev HL.out).mono ?_); rintro e w6 ⟨y0, y1, y2, y3, y4, rfl, hme, hL, hb⟩; have HFAR := Aside0.mk (own_far hL); have hn_ := heap_alloc_new w6 (.cells #[.int .i64 y0, .int .i64 y1, .int .i64 y2, .int .i64 y3, .int .i64 y4] 68); have hl_ := hL.box (.cells #[.int .i64 y0, .int .i64 y1, .int .i64 y2, .int .i64 y3, .int .i64 y4] 68); obtain ⟨W7, hW7⟩ : ∃ W7, w6.alloc (.cells #[.int .i64 y0, .int .i64 y1, .int .i64 y2, .int .i64 y3, .int .i64 y4] 68) = W7 := ⟨_, rfl⟩; rw [hW7] at hn_ hl_; clear HL; have HL := Aside0.mk hl_; have HE := Aside0.mk hn_; obtain ⟨b9, hb9⟩ : ∃ b9, w6.heap.size = b9 := ⟨_, rfl⟩; rw [hb9] at HL HE HFAR; have HME0 := Aside0.mk hme; rw [HNM.out] at hme; obtain ⟨hy0, hy1, hy2, hy3, hy4⟩ := Meas.mk.inj hme; have k0 : (y0 != (xs.length : Int)) = false := bne_eq_false_iff_eq.mpr hy0.symm; have k1 : (y1 != (xs.length : Int)) = false := bne_eq_false_iff_eq.mpr hy1.symm; have k2 : (y2 != 0) = false := bne_eq_false_iff_eq.mpr hy2.symm; have k3 : (y3 != pw + 2) = false := bne_eq_false_iff_eq.mpr hy3.symm; have k4 : (y4 != 0) = false := bne_eq_false_iff_eq.mpr hy4.symm; clear hy0 hy1 hy2 hy3 hy4 hme; clear d0 d1 d2; have c0 : W7.cell? ⟨w.heap.size, 0, none⟩ = some (.int .i64 X.x0) := (blk_cell HL.out.wb 0).trans rfl; have c1 : W7.cell? ⟨w.heap.size, 1, none⟩ = some (.int .i64 X.x1) := (blk_cell HL.out.wb 1).trans rfl; have c2 : W7.cell? ⟨w.heap.size, 2, none⟩ = some (.int .i64 X.x2) := (blk_cell HL.out.wb 2).trans rfl; have c3 : W7.cell? ⟨w.heap.size, 3, none⟩ = some (.slice X.A3 X.l3.length X.c3) := (blk_cell HL.out.wb 3).trans rfl; have c4 : W7.cell? ⟨w.heap.size, 4, none⟩ = some (.slice X.A4 X.l4.length X.c4) := (blk_cell HL.out.wb 4).trans rfl; have c5 : W7.cell? ⟨w.heap.size, 5, none⟩ = some (.int .i64 X.x5) := (blk_cell HL.out.wb 5).trans rfl; have d0 : W7.cell? ⟨w2.heap.size, 0, none⟩ = some (.int .i64 pw) := (blk_cell HL.out.pb 0).trans rfl; have d1 : W7.cell? ⟨w2.heap.size, 1, none⟩ = some (.int .i64 pj) := (blk_cell HL.out.pb 1).trans rfl; have d2 : W7.cell? ⟨w2.heap.size, 2, none⟩ = some (.int .i64 pr) := (blk_cell HL.out.pb 2).trans rfl; have e0 : W7.cell? ⟨b9, 0, none⟩ = some (.int .i64 y0) := (blk_cell HE.out 0).trans rfl; have e1 : W7.cell? ⟨b9, 1, none⟩ = some (.int .i64 y1) := (blk_cell HE.out 1).trans rfl; have e2 : W7.cell? ⟨b9, 2, none⟩ = some (.int .i64 y2) := (blk_cell HE.out 2).trans rfl; have e3 : W7.cell? ⟨b9, 3, none⟩ = some (.int .i64 y3) := (blk_cell HE.out 3).trans rfl; have e4 : W7.cell? ⟨b9, 4, none⟩ = some (.int .i64 y4) := (blk_cell HE.out 4).trans rfl; have f0 := blk_frozen HE.out 0; have f1 := blk_frozen HE.out 1; have f2 := blk_frozen HE.out 2; have f3 := blk_frozen HE.out 3; have f4 := blk_frozen HE.out 4; clear hL hb hn_ hl_))
  clear c0 c1 c2 c3 c4 c5 d0 d1 d2 e0 e1 e2 e3 e4 f0 f1 f2 f3 f4 hpw HB HB1 HB2 hbd hW7 hb9 k0 k1 k2 k3 k4
  go_loopw [10] (fun i wr => ∃ (k : Nat) (m : Mach), i = .int .i64 k ∧ Law w wr (fun k => k = b9) X w.heap.size w2.heap.size pw pj pr (.slice A xs.length c) xs g m ∧ wr.heap[b9]? = some (.cells #[.int .i64 (measOf m).u, .int .i64 (measOf m).j, .int .i64 (measOf m).s, .int .i64 (measOf m).a, .int .i64 (measOf m).l] 68 (0, 0)) ∧ m.picks = k ∧ (m.stopped = true → X.x5 < k)) (fun i _ => 1004011 - (intOf i).toNat)
  case atStart => exact ⟨0, _, rfl, HL.out, by rw [HME0.out]; exact HE.out, rfl, fun h => by simp [newM] at h⟩
  case round =>
    obtain ⟨k, m, rfl, hL, hE, hk, hst⟩ := hrel
    obtain ⟨u0, j0, s0, a0, l0, hM0⟩ : ∃ u j s a l, measOf m = ⟨u, j, s, a, l⟩ := ⟨_, _, _, _, _, rfl⟩
    rw [hM0] at hE
    clear HL HE HNM HME0
    have HL := Aside0.mk hL
    have HE := Aside0.mk hE
    have HK := Aside0.mk hk
    have HST := Aside0.mk hst
    have HM0 := Aside0.mk hM0
    have hpot := hL.run.inv.pot
    have hbl := bound_le hL.run.inv.ok
    have HI := Aside0.mk (show (0 : Int) ≤ (k : Int) by omega)
    cases hd : doneOf m
    · have hpos := rem_pos hL.run.inv.ok hd
      have hlt : (k : Int) < boundOf m := by omega
      have hkb : (k : Int) ≤ 1004010 := by omega
      have hbl2 := Aside0.mk hbl
      clear hpot hpos hbl hL hE hk hst hM0
      by_cases hc : (k : Int) = X.x5
      · skip
        have hst0 : m.stopped = false := by
          cases h : m.stopped
          · rfl
          · have := HST.out h; omega
        have HCS := Aside0.mk (show canStop m = true by simp [canStop, hst0, hd])
        have HINV0 := Aside0.mk (inv_stop HL.out.run.inv hst0)
        obtain ⟨m1, hm1⟩ : ∃ m1, ({ m with stopped := true } : Mach) = m1 := ⟨_, rfl⟩
        have HM1 := Aside0.mk hm1
        have hd1 : doneOf m1 = false := by rw [← hm1]; exact hd
        have hbm : boundOf m1 = boundOf m := by rw [← hm1]; rfl
        have HINV : Aside0 (Inv m1) := Aside0.mk (by rw [← hm1]; exact HINV0.out)
        have hmm : measOf m1 = measOf m := by rw [← hm1, measOf_eq, measOf_eq]; rfl
        have HK1 : Aside0 (m1.picks = k) := Aside0.mk (by rw [← hm1]; exact HK.out)
        have HST1 : Aside0 (m1.stopped = true → X.x5 < (k : Int) + 1) := Aside0.mk (fun _ => by omega)
        have q8 : ((k : Int) == X.x5) = true := beq_iff_eq.mpr hc
        have q9 := eq_true hc
        have HMM : Aside0 (measOf m1 = ⟨u0, j0, s0, a0, l0⟩) := Aside0.mk (hmm.trans HM0.out)
        clear hst0 hm1 HINV0 hc hmm
        have HNE := Aside0.mk (progress HINV.out hd1)
        have hne : ¬ (mvs m1).length = 0 := fun h => HNE.out (List.length_eq_zero_iff.1 h)
        have HSTEP := Aside0.mk (fun r : Int => step_facts HINV.out HNE.out r)
        have z0_ := eq_false hne
        have z1_ := eq_false HNE.out
        have q3 : ((k : Int) == boundOf m1) = false := beq_eq_false_iff_ne.mpr (by rw [hbm]; omega)
        have q4 : (((mvs m1).length : Int) == 0) = false := beq_eq_false_iff_ne.mpr (by omega)
        have q5 := eq_false (show ¬ ((mvs m1).length : Int) = 0 by omega)
        have q6 := eq_false (show ¬ (k : Int) = boundOf m1 by rw [hbm]; omega)
        have HKB := Aside0.mk hlt
        clear hbm hne
        go_wp2_with (first | (go_at_call 17; (with_reducible refine (l_done HL.out).mono ?_); rintro e wa ⟨rfl, hL, hb⟩; have he_ := (hb.block _ (blk_lt HE.out)).trans HE.out; clear HL HE; have HL := Aside0.mk hL; have HE := Aside0.mk he_; have c5 : wa.cell? ⟨w.heap.size, 5, none⟩ = some (.int .i64 X.x5) := (blk_cell HL.out.wb 5).trans rfl; have d0 : wa.cell? ⟨w2.heap.size, 0, none⟩ = some (.int .i64 pw) := (blk_cell HL.out.pb 0).trans rfl; have d1 : wa.cell? ⟨w2.heap.size, 1, none⟩ = some (.int .i64 pj) := (blk_cell HL.out.pb 1).trans rfl; have d2 : wa.cell? ⟨w2.heap.size, 2, none⟩ = some (.int .i64 pr) := (blk_cell HL.out.pb 2).trans rfl; clear hL hb he_) | (go_at_call 18; (with_reducible refine (l_cancel HL.out HCS.out).mono ?_); rintro e wb ⟨rfl, hL, hh⟩; rw [HM1.out] at hL; have he_ := hh.own (M := fun k => k = b9) rfl HE.out; clear HL HE; have HL := Aside0.mk hL; have HE := Aside0.mk he_; clear c5 d0 d1 d2; have d0 : wb.cell? ⟨w2.heap.size, 0, none⟩ = some (.int .i64 pw) := (blk_cell HL.out.pb 0).trans rfl; have d1 : wb.cell? ⟨w2.heap.size, 1, none⟩ = some (.int .i64 pj) := (blk_cell HL.out.pb 1).trans rfl; have d2 : wb.cell? ⟨w2.heap.size, 2, none⟩ = some (.int .i64 pr) := (blk_cell HL.out.pb 2).trans rfl; clear hL hh he_) | (first | (go_at_call 25; (with_reducible refine (l_bound HL.out HP.out HLN.out HJS.out).mono ?_); rintro e wc ⟨rfl, hL, hb⟩; have he_ := (hb.block _ (blk_lt HE.out)).trans HE.out; clear HL HE; have HL := Aside0.mk hL; have HE := Aside0.mk he_; clear d0 d1 d2; clear hL hb he_) | (go_at_call 34; (with_reducible refine (l_ready HL.out).mono ?_); rintro e wd ⟨A5, c5_, rfl, -, hL, hb⟩; have he_ := (hb.block _ (blk_lt HE.out)).trans HE.out; clear HL HE; have HL := Aside0.mk hL; have HE := Aside0.mk he_; have c0 : wd.cell? ⟨w.heap.size, 0, none⟩ = some (.int .i64 X.x0) := (blk_cell HL.out.wb 0).trans rfl; have c1 : wd.cell? ⟨w.heap.size, 1, none⟩ = some (.int .i64 X.x1) := (blk_cell HL.out.wb 1).trans rfl; have c2 : wd.cell? ⟨w.heap.size, 2, none⟩ = some (.int .i64 X.x2) := (blk_cell HL.out.wb 2).trans rfl; have c3 : wd.cell? ⟨w.heap.size, 3, none⟩ = some (.slice X.A3 X.l3.length X.c3) := (blk_cell HL.out.wb 3).trans rfl; have c4 : wd.cell? ⟨w.heap.size, 4, none⟩ = some (.slice X.A4 X.l4.length X.c4) := (blk_cell HL.out.wb 4).trans rfl; have c5 : wd.cell? ⟨w.heap.size, 5, none⟩ = some (.int .i64 X.x5) := (blk_cell HL.out.wb 5).trans rfl; clear hL hb he_) | (go_at_call 20; (with_reducible refine (l_at HL.out HXW.out _ HI.out).mono ?_); rintro e we ⟨r, rfl, hL, hb⟩; have he_ := (hb.block _ (blk_lt HE.out)).trans HE.out; clear HL HE; have HL := Aside0.mk hL; have HE := Aside0.mk he_; clear c0 c1 c2 c3 c4 c5; clear hL hb he_) | (go_at_call 19; (with_reducible refine (l_pickv HL.out _ HNE.out).mono ?_); rintro e wf ⟨z0, z1, z2, z3, rfl, hz, hL, hh⟩; have hl_ := hL.alloc (.cells #[.int .i64 z0, .int .i64 z1, .int .i64 z2, .int .i64 z3] 42); have he_ := blk_alloc (hh.own (M := fun k => k = b9) rfl HE.out) (.cells #[.int .i64 z0, .int .i64 z1, .int .i64 z2, .int .i64 z3] 42); obtain ⟨wf2, hwf⟩ : ∃ W0, wf.alloc (.cells #[.int .i64 z0, .int .i64 z1, .int .i64 z2, .int .i64 z3] 42) = W0 := ⟨_, rfl⟩; rw [hwf] at hl_ he_; have HSR := Aside0.mk (HSTEP.out r); obtain ⟨m2, hm2⟩ : ∃ m2, step m1 (picked m1 r) = m2 := ⟨_, rfl⟩; rw [hm2] at hl_ HSR; clear HL HE HSTEP; have HL := Aside0.mk hl_; have HE := Aside0.mk he_; clear hL hh hl_ he_ hz hm2) | (go_at_call 32; (with_reducible refine (l_measurev HL.out).mono ?_); rintro e wg ⟨u1, j1, s1, a1, l1, rfl, hme, hL, hb⟩; have hl_ := hL.alloc (.cells #[.int .i64 u1, .int .i64 j1, .int .i64 s1, .int .i64 a1, .int .i64 l1] 68); have he_ := blk_alloc ((hb.block _ (blk_lt HE.out)).trans HE.out) (.cells #[.int .i64 u1, .int .i64 j1, .int .i64 s1, .int .i64 a1, .int .i64 l1] 68); have hn_ := heap_alloc_new wg (.cells #[.int .i64 u1, .int .i64 j1, .int .i64 s1, .int .i64 a1, .int .i64 l1] 68); obtain ⟨wg2, hwg⟩ : ∃ W0, wg.alloc (.cells #[.int .i64 u1, .int .i64 j1, .int .i64 s1, .int .i64 a1, .int .i64 l1] 68) = W0 := ⟨_, rfl⟩; rw [hwg] at hl_ he_ hn_; obtain ⟨b13, hb13⟩ : ∃ b13, wg.heap.size = b13 := ⟨_, rfl⟩; rw [hb13] at hn_; clear HL HE; have HL := Aside0.mk hl_; have HE := Aside0.mk he_; have HN := Aside0.mk hn_; have HLS := Aside0.mk (HSR.out.2.2.1); have HNN := Aside0.mk (meas_nonneg HL.out.run.inv); rw [hme, HMM.out] at HLS; rw [hme] at HNN; have HME2 := Aside0.mk hme; obtain ⟨n0, n1, n2, n3, n4⟩ := HNN.out; have q20 : decide (u1 < 0) = false := decide_eq_false (by simp only [] at n0; omega); have q21 : decide (j1 < 0) = false := decide_eq_false (by simp only [] at n1; omega); have q22 : decide (s1 < 0) = false := decide_eq_false (by simp only [] at n2; omega); have q23 : decide (a1 < 0) = false := decide_eq_false (by simp only [] at n3; omega); have q24 : decide (l1 < 0) = false := decide_eq_false (by simp only [] at n4; omega); have e0 : wg2.cell? ⟨b9, 0, none⟩ = some (.int .i64 u0) := (blk_cell HE.out 0).trans rfl; have e1 : wg2.cell? ⟨b9, 1, none⟩ = some (.int .i64 j0) := (blk_cell HE.out 1).trans rfl; have e2 : wg2.cell? ⟨b9, 2, none⟩ = some (.int .i64 s0) := (blk_cell HE.out 2).trans rfl; have e3 : wg2.cell? ⟨b9, 3, none⟩ = some (.int .i64 a0) := (blk_cell HE.out 3).trans rfl; have e4 : wg2.cell? ⟨b9, 4, none⟩ = some (.int .i64 l0) := (blk_cell HE.out 4).trans rfl; have g0 : wg2.cell? ⟨b13, 0, none⟩ = some (.int .i64 u1) := (blk_cell HN.out 0).trans rfl; have g1 : wg2.cell? ⟨b13, 1, none⟩ = some (.int .i64 j1) := (blk_cell HN.out 1).trans rfl; have g2 : wg2.cell? ⟨b13, 2, none⟩ = some (.int .i64 s1) := (blk_cell HN.out 2).trans rfl; have g3 : wg2.cell? ⟨b13, 3, none⟩ = some (.int .i64 a1) := (blk_cell HN.out 3).trans rfl; have g4 : wg2.cell? ⟨b13, 4, none⟩ = some (.int .i64 l1) := (blk_cell HN.out 4).trans rfl; clear hL hb hl_ he_ hn_ hme n0 n1 n2 n3 n4 HNN) | (go_at_call 35; (with_reducible refine (less_lit u1 j1 s1 a1 l1 u0 j0 s0 a0 l0 _ HLS.out).mono ?_); rintro e wh ⟨rfl, hb⟩; have hl_ := HL.out.pass hb; have he_ := (hb.block _ (blk_lt HE.out)).trans HE.out; have hn_ := (hb.block _ (blk_lt HN.out)).trans HN.out; clear HL HE HN; have HL := Aside0.mk hl_; have HE := Aside0.mk he_; have HN := Aside0.mk hn_; clear g0 g1 g2 g3 g4 e0 e1 e2 e3 e4; have e0 : wh.cell? ⟨b9, 0, none⟩ = some (.int .i64 u0) := (blk_cell HE.out 0).trans rfl; have e1 : wh.cell? ⟨b9, 1, none⟩ = some (.int .i64 j0) := (blk_cell HE.out 1).trans rfl; have e2 : wh.cell? ⟨b9, 2, none⟩ = some (.int .i64 s0) := (blk_cell HE.out 2).trans rfl; have e3 : wh.cell? ⟨b9, 3, none⟩ = some (.int .i64 a0) := (blk_cell HE.out 3).trans rfl; have e4 : wh.cell? ⟨b9, 4, none⟩ = some (.int .i64 l0) := (blk_cell HE.out 4).trans rfl; have f0 : wh.frozen? ⟨b9, 0, none⟩ = false := blk_frozen HE.out 0; have f1 : wh.frozen? ⟨b9, 1, none⟩ = false := blk_frozen HE.out 1; have f2 : wh.frozen? ⟨b9, 2, none⟩ = false := blk_frozen HE.out 2; have f3 : wh.frozen? ⟨b9, 3, none⟩ = false := blk_frozen HE.out 3; have f4 : wh.frozen? ⟨b9, 4, none⟩ = false := blk_frozen HE.out 4; have g0 : wh.cell? ⟨b13, 0, none⟩ = some (.int .i64 u1) := (blk_cell HN.out 0).trans rfl; have g1 : wh.cell? ⟨b13, 1, none⟩ = some (.int .i64 j1) := (blk_cell HN.out 1).trans rfl; have g2 : wh.cell? ⟨b13, 2, none⟩ = some (.int .i64 s1) := (blk_cell HN.out 2).trans rfl; have g3 : wh.cell? ⟨b13, 3, none⟩ = some (.int .i64 a1) := (blk_cell HN.out 3).trans rfl; have g4 : wh.cell? ⟨b13, 4, none⟩ = some (.int .i64 l1) := (blk_cell HN.out 4).trans rfl; have HLP := Aside0.mk (HL.out.write (five_kept wh b9 (.int .i64 u1) (.int .i64 j1) (.int .i64 s1) (.int .i64 a1) (.int .i64 l1)) HFAR.out (five_world wh b9 (.int .i64 u1) (.int .i64 j1) (.int .i64 s1) (.int .i64 a1) (.int .i64 l1)).1 (five_world wh b9 (.int .i64 u1) (.int .i64 j1) (.int .i64 s1) (.int .i64 a1) (.int .i64 l1)).2.1 (five_world wh b9 (.int .i64 u1) (.int .i64 j1) (.int .i64 s1) (.int .i64 a1) (.int .i64 l1)).2.2); have HEP := Aside0.mk (five_at HE.out (.int .i64 u1) (.int .i64 j1) (.int .i64 s1) (.int .i64 a1) (.int .i64 l1)); clear hb hl_ he_ hn_) | (go_at_call 36; (with_reducible refine (r_picks HLP.out.run).mono ?_); rintro e wi ⟨rfl, rfl⟩; rw [HSR.out.1, HK1.out])))
        go_roundw
        case rel => exact ⟨k + 1, m2, by go_num, HLP.out, by rw [HME2.out]; exact HEP.out, by rw [HSR.out.1, HK1.out]; rfl, fun h => HST1.out (HSR.out.2.1.symm.trans h)⟩
        case measure => have := HKB.out; simp [intOf]; omega

      · skip
        have hd1 := hd
        have hbm : boundOf m = boundOf m := rfl
        have HINV := Aside0.mk HL.out.run.inv
        have HST1 : Aside0 (m.stopped = true → X.x5 < (k : Int) + 1) := Aside0.mk (fun h => by have := HST.out h; omega)
        have q8 : ((k : Int) == X.x5) = false := beq_eq_false_iff_ne.mpr hc
        have q9 := eq_false hc
        have HMM := HM0
        have HK1 := HK
        clear hc
        have HNE := Aside0.mk (progress HINV.out hd1)
        have hne : ¬ (mvs m).length = 0 := fun h => HNE.out (List.length_eq_zero_iff.1 h)
        have HSTEP := Aside0.mk (fun r : Int => step_facts HINV.out HNE.out r)
        have z0_ := eq_false hne
        have z1_ := eq_false HNE.out
        have q3 : ((k : Int) == boundOf m) = false := beq_eq_false_iff_ne.mpr (by rw [hbm]; omega)
        have q4 : (((mvs m).length : Int) == 0) = false := beq_eq_false_iff_ne.mpr (by omega)
        have q5 := eq_false (show ¬ ((mvs m).length : Int) = 0 by omega)
        have q6 := eq_false (show ¬ (k : Int) = boundOf m by rw [hbm]; omega)
        have HKB := Aside0.mk hlt
        clear hbm hne
        go_wp2_with (first | (go_at_call 17; (with_reducible refine (l_done HL.out).mono ?_); rintro e wa ⟨rfl, hL, hb⟩; have he_ := (hb.block _ (blk_lt HE.out)).trans HE.out; clear HL HE; have HL := Aside0.mk hL; have HE := Aside0.mk he_; have c5 : wa.cell? ⟨w.heap.size, 5, none⟩ = some (.int .i64 X.x5) := (blk_cell HL.out.wb 5).trans rfl; have d0 : wa.cell? ⟨w2.heap.size, 0, none⟩ = some (.int .i64 pw) := (blk_cell HL.out.pb 0).trans rfl; have d1 : wa.cell? ⟨w2.heap.size, 1, none⟩ = some (.int .i64 pj) := (blk_cell HL.out.pb 1).trans rfl; have d2 : wa.cell? ⟨w2.heap.size, 2, none⟩ = some (.int .i64 pr) := (blk_cell HL.out.pb 2).trans rfl; clear hL hb he_) | (first | (go_at_call 25; (with_reducible refine (l_bound HL.out HP.out HLN.out HJS.out).mono ?_); rintro e wc ⟨rfl, hL, hb⟩; have he_ := (hb.block _ (blk_lt HE.out)).trans HE.out; clear HL HE; have HL := Aside0.mk hL; have HE := Aside0.mk he_; clear c5 d0 d1 d2; clear hL hb he_) | (go_at_call 34; (with_reducible refine (l_ready HL.out).mono ?_); rintro e wd ⟨A5, c5_, rfl, -, hL, hb⟩; have he_ := (hb.block _ (blk_lt HE.out)).trans HE.out; clear HL HE; have HL := Aside0.mk hL; have HE := Aside0.mk he_; have c0 : wd.cell? ⟨w.heap.size, 0, none⟩ = some (.int .i64 X.x0) := (blk_cell HL.out.wb 0).trans rfl; have c1 : wd.cell? ⟨w.heap.size, 1, none⟩ = some (.int .i64 X.x1) := (blk_cell HL.out.wb 1).trans rfl; have c2 : wd.cell? ⟨w.heap.size, 2, none⟩ = some (.int .i64 X.x2) := (blk_cell HL.out.wb 2).trans rfl; have c3 : wd.cell? ⟨w.heap.size, 3, none⟩ = some (.slice X.A3 X.l3.length X.c3) := (blk_cell HL.out.wb 3).trans rfl; have c4 : wd.cell? ⟨w.heap.size, 4, none⟩ = some (.slice X.A4 X.l4.length X.c4) := (blk_cell HL.out.wb 4).trans rfl; have c5 : wd.cell? ⟨w.heap.size, 5, none⟩ = some (.int .i64 X.x5) := (blk_cell HL.out.wb 5).trans rfl; clear hL hb he_) | (go_at_call 20; (with_reducible refine (l_at HL.out HXW.out _ HI.out).mono ?_); rintro e we ⟨r, rfl, hL, hb⟩; have he_ := (hb.block _ (blk_lt HE.out)).trans HE.out; clear HL HE; have HL := Aside0.mk hL; have HE := Aside0.mk he_; clear c0 c1 c2 c3 c4 c5; clear hL hb he_) | (go_at_call 19; (with_reducible refine (l_pickv HL.out _ HNE.out).mono ?_); rintro e wf ⟨z0, z1, z2, z3, rfl, hz, hL, hh⟩; have hl_ := hL.alloc (.cells #[.int .i64 z0, .int .i64 z1, .int .i64 z2, .int .i64 z3] 42); have he_ := blk_alloc (hh.own (M := fun k => k = b9) rfl HE.out) (.cells #[.int .i64 z0, .int .i64 z1, .int .i64 z2, .int .i64 z3] 42); obtain ⟨wf2, hwf⟩ : ∃ W0, wf.alloc (.cells #[.int .i64 z0, .int .i64 z1, .int .i64 z2, .int .i64 z3] 42) = W0 := ⟨_, rfl⟩; rw [hwf] at hl_ he_; have HSR := Aside0.mk (HSTEP.out r); obtain ⟨m2, hm2⟩ : ∃ m2, step m (picked m r) = m2 := ⟨_, rfl⟩; rw [hm2] at hl_ HSR; clear HL HE HSTEP; have HL := Aside0.mk hl_; have HE := Aside0.mk he_; clear hL hh hl_ he_ hz hm2) | (go_at_call 32; (with_reducible refine (l_measurev HL.out).mono ?_); rintro e wg ⟨u1, j1, s1, a1, l1, rfl, hme, hL, hb⟩; have hl_ := hL.alloc (.cells #[.int .i64 u1, .int .i64 j1, .int .i64 s1, .int .i64 a1, .int .i64 l1] 68); have he_ := blk_alloc ((hb.block _ (blk_lt HE.out)).trans HE.out) (.cells #[.int .i64 u1, .int .i64 j1, .int .i64 s1, .int .i64 a1, .int .i64 l1] 68); have hn_ := heap_alloc_new wg (.cells #[.int .i64 u1, .int .i64 j1, .int .i64 s1, .int .i64 a1, .int .i64 l1] 68); obtain ⟨wg2, hwg⟩ : ∃ W0, wg.alloc (.cells #[.int .i64 u1, .int .i64 j1, .int .i64 s1, .int .i64 a1, .int .i64 l1] 68) = W0 := ⟨_, rfl⟩; rw [hwg] at hl_ he_ hn_; obtain ⟨b13, hb13⟩ : ∃ b13, wg.heap.size = b13 := ⟨_, rfl⟩; rw [hb13] at hn_; clear HL HE; have HL := Aside0.mk hl_; have HE := Aside0.mk he_; have HN := Aside0.mk hn_; have HLS := Aside0.mk (HSR.out.2.2.1); have HNN := Aside0.mk (meas_nonneg HL.out.run.inv); rw [hme, HMM.out] at HLS; rw [hme] at HNN; have HME2 := Aside0.mk hme; obtain ⟨n0, n1, n2, n3, n4⟩ := HNN.out; have q20 : decide (u1 < 0) = false := decide_eq_false (by simp only [] at n0; omega); have q21 : decide (j1 < 0) = false := decide_eq_false (by simp only [] at n1; omega); have q22 : decide (s1 < 0) = false := decide_eq_false (by simp only [] at n2; omega); have q23 : decide (a1 < 0) = false := decide_eq_false (by simp only [] at n3; omega); have q24 : decide (l1 < 0) = false := decide_eq_false (by simp only [] at n4; omega); have e0 : wg2.cell? ⟨b9, 0, none⟩ = some (.int .i64 u0) := (blk_cell HE.out 0).trans rfl; have e1 : wg2.cell? ⟨b9, 1, none⟩ = some (.int .i64 j0) := (blk_cell HE.out 1).trans rfl; have e2 : wg2.cell? ⟨b9, 2, none⟩ = some (.int .i64 s0) := (blk_cell HE.out 2).trans rfl; have e3 : wg2.cell? ⟨b9, 3, none⟩ = some (.int .i64 a0) := (blk_cell HE.out 3).trans rfl; have e4 : wg2.cell? ⟨b9, 4, none⟩ = some (.int .i64 l0) := (blk_cell HE.out 4).trans rfl; have g0 : wg2.cell? ⟨b13, 0, none⟩ = some (.int .i64 u1) := (blk_cell HN.out 0).trans rfl; have g1 : wg2.cell? ⟨b13, 1, none⟩ = some (.int .i64 j1) := (blk_cell HN.out 1).trans rfl; have g2 : wg2.cell? ⟨b13, 2, none⟩ = some (.int .i64 s1) := (blk_cell HN.out 2).trans rfl; have g3 : wg2.cell? ⟨b13, 3, none⟩ = some (.int .i64 a1) := (blk_cell HN.out 3).trans rfl; have g4 : wg2.cell? ⟨b13, 4, none⟩ = some (.int .i64 l1) := (blk_cell HN.out 4).trans rfl; clear hL hb hl_ he_ hn_ hme n0 n1 n2 n3 n4 HNN) | (go_at_call 35; (with_reducible refine (less_lit u1 j1 s1 a1 l1 u0 j0 s0 a0 l0 _ HLS.out).mono ?_); rintro e wh ⟨rfl, hb⟩; have hl_ := HL.out.pass hb; have he_ := (hb.block _ (blk_lt HE.out)).trans HE.out; have hn_ := (hb.block _ (blk_lt HN.out)).trans HN.out; clear HL HE HN; have HL := Aside0.mk hl_; have HE := Aside0.mk he_; have HN := Aside0.mk hn_; clear g0 g1 g2 g3 g4 e0 e1 e2 e3 e4; have e0 : wh.cell? ⟨b9, 0, none⟩ = some (.int .i64 u0) := (blk_cell HE.out 0).trans rfl; have e1 : wh.cell? ⟨b9, 1, none⟩ = some (.int .i64 j0) := (blk_cell HE.out 1).trans rfl; have e2 : wh.cell? ⟨b9, 2, none⟩ = some (.int .i64 s0) := (blk_cell HE.out 2).trans rfl; have e3 : wh.cell? ⟨b9, 3, none⟩ = some (.int .i64 a0) := (blk_cell HE.out 3).trans rfl; have e4 : wh.cell? ⟨b9, 4, none⟩ = some (.int .i64 l0) := (blk_cell HE.out 4).trans rfl; have f0 : wh.frozen? ⟨b9, 0, none⟩ = false := blk_frozen HE.out 0; have f1 : wh.frozen? ⟨b9, 1, none⟩ = false := blk_frozen HE.out 1; have f2 : wh.frozen? ⟨b9, 2, none⟩ = false := blk_frozen HE.out 2; have f3 : wh.frozen? ⟨b9, 3, none⟩ = false := blk_frozen HE.out 3; have f4 : wh.frozen? ⟨b9, 4, none⟩ = false := blk_frozen HE.out 4; have g0 : wh.cell? ⟨b13, 0, none⟩ = some (.int .i64 u1) := (blk_cell HN.out 0).trans rfl; have g1 : wh.cell? ⟨b13, 1, none⟩ = some (.int .i64 j1) := (blk_cell HN.out 1).trans rfl; have g2 : wh.cell? ⟨b13, 2, none⟩ = some (.int .i64 s1) := (blk_cell HN.out 2).trans rfl; have g3 : wh.cell? ⟨b13, 3, none⟩ = some (.int .i64 a1) := (blk_cell HN.out 3).trans rfl; have g4 : wh.cell? ⟨b13, 4, none⟩ = some (.int .i64 l1) := (blk_cell HN.out 4).trans rfl; have HLP := Aside0.mk (HL.out.write (five_kept wh b9 (.int .i64 u1) (.int .i64 j1) (.int .i64 s1) (.int .i64 a1) (.int .i64 l1)) HFAR.out (five_world wh b9 (.int .i64 u1) (.int .i64 j1) (.int .i64 s1) (.int .i64 a1) (.int .i64 l1)).1 (five_world wh b9 (.int .i64 u1) (.int .i64 j1) (.int .i64 s1) (.int .i64 a1) (.int .i64 l1)).2.1 (five_world wh b9 (.int .i64 u1) (.int .i64 j1) (.int .i64 s1) (.int .i64 a1) (.int .i64 l1)).2.2); have HEP := Aside0.mk (five_at HE.out (.int .i64 u1) (.int .i64 j1) (.int .i64 s1) (.int .i64 a1) (.int .i64 l1)); clear hb hl_ he_ hn_) | (go_at_call 36; (with_reducible refine (r_picks HLP.out.run).mono ?_); rintro e wi ⟨rfl, rfl⟩; rw [HSR.out.1, HK1.out])))
        go_roundw
        case rel => exact ⟨k + 1, m2, by go_num, HLP.out, by rw [HME2.out]; exact HEP.out, by rw [HSR.out.1, HK1.out]; rfl, fun h => HST1.out (HSR.out.2.1.symm.trans h)⟩
        case measure => have := HKB.out; simp [intOf]; omega

    · have HD := Aside0.mk hd
      have HPL := Aside0.mk (done_place hL.run.inv.ok hd)
      have hdm := done_meas hL.run.inv.ok hd
      rw [hM0] at hdm
      obtain ⟨ha0, hl0⟩ := hdm
      simp only [] at ha0 hl0
      subst ha0 hl0
      have HNO := Aside0.mk (done_none hL.run.inv.ok hd)
      have HCN := Aside0.mk (show canStop m = false by simp [canStop, hd])
      have HOU := Aside0.mk (show m.outcome ≠ 0 by
        rcases hL.run.inv.out with ⟨h, _⟩ | ⟨_, h | h⟩
        · rw [(done_facts hL.run.inv.ok hd).2.1] at h; simp at h
        · omega
        · omega)
      have HWN := Aside0.mk (show (m.workers.length : Int) = pw by rw [hL.run.inv.ok.nw, hL.eq.2])
      have hpw := HP.out.1
      clear hpot hbl hL hE hk hst hM0
      go_wp2_with (first | (go_at_call 17; (with_reducible refine (l_done HL.out).mono ?_); rintro e wa ⟨rfl, hL, hb⟩; have he_ := (hb.block _ (blk_lt HE.out)).trans HE.out; clear HL HE; have HL := Aside0.mk hL; have HE := Aside0.mk he_; clear hL hb he_))
      go_loopw [14] (fun i wr => ∃ k2 : Nat, i = .int .i64 k2 ∧ (k2 : Int) ≤ pw + 2 ∧ Law w wr (fun k => k = b9) X w.heap.size w2.heap.size pw pj pr (.slice A xs.length c) xs g m ∧ wr.heap[b9]? = some (.cells #[.int .i64 u0, .int .i64 j0, .int .i64 s0, .int .i64 0, .int .i64 0] 68 (0, 0))) (fun i _ => (pw + 2).toNat - (intOf i).toNat)
      case atStart => exact ⟨0, rfl, by omega, HL.out, HE.out⟩
      case round =>
        obtain ⟨k2, rfl, hk2, hL, hE⟩ := hrel
        clear HL HE
        have HL := Aside0.mk hL
        have HE := Aside0.mk hE
        have d0 : wr.cell? ⟨w2.heap.size, 0, none⟩ = some (.int .i64 pw) := (blk_cell HL.out.pb 0).trans rfl
        have d1 : wr.cell? ⟨w2.heap.size, 1, none⟩ = some (.int .i64 pj) := (blk_cell HL.out.pb 1).trans rfl
        have d2 : wr.cell? ⟨w2.heap.size, 2, none⟩ = some (.int .i64 pr) := (blk_cell HL.out.pb 2).trans rfl
        by_cases hlt : (k2 : Int) ≤ pw + 1
        · have p0 : decide ((k2 : Int) ≤ pw + 1) = true := decide_eq_true hlt
          have p1 := eq_true hlt
          have HPR := Aside0.mk (show 0 ≤ (k2 : Int) ∧ (k2 : Int) ≤ m.workers.length + 1 from ⟨by omega, by have := HWN.out; omega⟩)
          have HK2 := Aside0.mk hlt
          have hk9 : (k2 : Int) ≤ 10 := by omega
          clear hL hE hk2 hlt
          go_wp2_with (first | (go_at_call 29; (with_reducible refine (l_placev HL.out _ HPR.out).mono ?_); rintro e wb ⟨z0, z1, z2, rfl, hz, hL, hb⟩; rw [HPL.out] at hz; obtain ⟨rfl, rfl, rfl⟩ := S59.mk.inj hz; have hl_ := hL.alloc (.cells #[.int .i64 0, .int .i64 0, .int .i64 0] 59); have he_ := blk_alloc ((hb.block _ (blk_lt HE.out)).trans HE.out) (.cells #[.int .i64 0, .int .i64 0, .int .i64 0] 59); clear HL HE; have HL := Aside0.mk hl_; have HE := Aside0.mk he_; clear d0 d1 d2 hL hb hl_ he_ hz))
          go_roundw
          case rel => exact ⟨k2 + 1, by go_num, by have := HK2.out; omega, HL.out, HE.out⟩
          case measure => have := HK2.out; simp [intOf]; omega
        · have p0 : decide ((k2 : Int) ≤ pw + 1) = false := decide_eq_false hlt
          have p1 := eq_false hlt
          have o0 : (m.outcome != 0) = true := by simpa using HOU.out
          have o1 := eq_false HOU.out
          clear hL hE hk2 hlt
          go_wp2_with (first | (go_at_call 19; (with_reducible refine (l_pick_no HL.out _ HNO.out).mono ?_); rintro e wc ⟨rfl, hL, hb⟩; unfold ev; have hl_ := hL.alloc (.cells #[.int .i64 0, .int .i64 0, .int .i64 0, .int .i64 0] 42); have he_ := blk_alloc ((hb.block _ (blk_lt HE.out)).trans HE.out) (.cells #[.int .i64 0, .int .i64 0, .int .i64 0, .int .i64 0] 42); clear HL HE; have HL := Aside0.mk hl_; have HE := Aside0.mk he_; clear d0 d1 d2 hL hb hl_ he_) | (go_at_call 18; (with_reducible refine (l_cancel_no HL.out HCN.out).mono ?_); rintro e wd ⟨rfl, hL, hb⟩; have he_ := (hb.block _ (blk_lt HE.out)).trans HE.out; clear HL HE; have HL := Aside0.mk hL; have HE := Aside0.mk he_; clear hL hb he_) | (go_at_call 34; (with_reducible refine (l_ready HL.out).mono ?_); rintro e we ⟨A5, c5_, rfl, -, hL, hb⟩; rw [HNO.out]; have he_ := (hb.block _ (blk_lt HE.out)).trans HE.out; clear HL HE; have HL := Aside0.mk hL; have HE := Aside0.mk he_; have e0 : we.cell? ⟨b9, 0, none⟩ = some (.int .i64 u0) := (blk_cell HE.out 0).trans rfl; have e1 : we.cell? ⟨b9, 1, none⟩ = some (.int .i64 j0) := (blk_cell HE.out 1).trans rfl; have e2 : we.cell? ⟨b9, 2, none⟩ = some (.int .i64 s0) := (blk_cell HE.out 2).trans rfl; have e3 : we.cell? ⟨b9, 3, none⟩ = some (.int .i64 0) := (blk_cell HE.out 3).trans rfl; have e4 : we.cell? ⟨b9, 4, none⟩ = some (.int .i64 0) := (blk_cell HE.out 4).trans rfl; clear hL hb he_) | (go_at_call 27; (with_reducible refine (r_outcome HL.out.run).mono ?_); rintro e wf ⟨rfl, rfl⟩))
          go_ret
          exact ⟨rfl, HL.out.run.bel⟩
end Go.Proofs.Ythcchpbidbbiaaa.Sc
namespace Go.Proofs.Ythcchpbidbbiaaa.schedEnds
open Go.ChangeShapes Go.WideShapes Go.ChangeAt Go.RowKit Go.Joins
open Go.Proofs.YthcchpbidbbiaaaW
set_option linter.unusedVariables false
theorem own : ownKnob Try.prog.godebug = none := by kernel_rfl
theorem laidOut : laidOutB Try.prog = true := by kernel_rfl
set_option maxRecDepth 100000 in
theorem lifted (os : Os) (started : os.Started) (H : Type) (enc : TypeId × Value → H) :
    ReturnsInHanded {} Try.checked os 8 .any (Rows.schedEndsSpec.pre6 enc Try.prog Try.f8 Rows.schedEndsRow.domain false) (Rows.schedEndsSpec.post enc Try.prog Try.f8 false true false false) := by
  refine returnsInHanded_of_change_sized (C := Try.checked) own started (by kernel_rfl) Try.func8
    (ChangeSpec.witness6 (enc := enc) (C := Try.checked) false ⟨#[], #[.agg #[.int .i64 0, .int .i64 0, .int .i64 0, .slice none 0 0, .slice none 0 0, .int .i64 0]], []⟩ 8 (by kernel_rfl) (by kernel_rfl) (by kernel_rfl) (by kernel_rfl)) ?_
  intro W base args ds gs before hval0 hW hcnd hsz0 _
  have hval : ∀ (j : Nat) t v, Try.f8.params[j]? = some t → args[j]? = some v → Value.okWide Try.prog W .any base t v := hval0
  have hW' := hW
  obtain ⟨p, q, hA0, hV, rfl, hfz, hnd⟩ := hW
  have hA : DataW.TrodAll enc Try.prog W 0 (fun _ => true) true Try.f8.params.toList args.toList ds p := hA0
  rw [Try.params8] at hA hval
  obtain ⟨v0, vs0, d0, ds0, p0, q0, hargs, rfl, rfl, h0, r0⟩ := trodAll_cons hA
  obtain ⟨rfl, rfl, rfl⟩ := trodAll_nil r0
  obtain rfl : args = #[v0] := by cases args; simp_all
  obtain ⟨rfl, rfl⟩ := trodVars_none hV
  have k0 := h0
  have lt0 : ∀ x ∈ p0, x.block < W.heap.size := by obtain ⟨m, hm⟩ := k0; exact DataW.trod_lt m _ _ _ hm
  obtain ⟨X, rfl, hX⟩ := Sc.work_open (fun _ => rfl) (hval 0 37 v0 rfl rfl) h0
  clear hA0 hval0 hsz0
  refine (Sc.ends_walk X W hX).mono fun e W' ⟨he, bel⟩ => ?_
  subst he
  exact ⟨_, rfl, _, _, _, [], _, [], hW', trodAll_mk1 (shut_bool Try.underlying4 _), (trodAll_cons_mk (Below.trod laidOut (by kernel_rfl) (of_decide_eq_true (by kernel_rfl)) k0 bel lt0) trodAll_mk0), rfl, bel.frame _, fun h => by cases h⟩
theorem over : Rows.schedEndsRow.holds Try.pinned (OpenSpec.ofChange Rows.schedEndsSpec) :=
  OpenClaim.holds_of_wide 8 Try.f8 rfl rfl rfl rfl rfl rfl rfl ⟨rfl, rfl, rfl, rfl, rfl⟩ rfl rfl rfl rfl rfl (by kernel_rfl) Try.func8 (by kernel_rfl)
    (of_decide_eq_true (by kernel_rfl)) (by unfold Func.isWrapper; first | (rw [if_pos (by decide +kernel)]; kernel_rfl) | (rw [if_neg (by decide +kernel)]; exact ⟨rfl, rfl⟩))
    (fun os started H enc _ => lifted os started H enc)
theorem proved : Rows.SchedEndsSaid := over
#print axioms proved
end Go.Proofs.Ythcchpbidbbiaaa.schedEnds
namespace Go.Proofs.Ythcchpbidbbiaaa
/-- The row, under a short name, for the claim. -/
theorem schedEnds_holds : Rows.SchedEndsSaid := schedEnds.proved
end Go.Proofs.Ythcchpbidbbiaaa
