/- Copies; several machines in one memory. -/
import Derived.Test.YthcchpbidbbiaaaSce
import Derived.Test.YthcchpbidbbiaaaScf
import Derived.Test.YthcchpbidbbiaaaScg
import Derived.Test.YthcchpbidbbiaaaOSchedSidex4
namespace Go.Proofs.Ythcchpbidbbiaaa.Sc
open Go.RowKit Go.Proofs.YthcchpbidbbiaaaW.PrintWords Go.Proofs.YthcchpbidbbiaaaW.PrintLast Go.Proofs.YthcchpbidbbiaaaW.PrintMore Go.Proofs.Ythcchpbidbbiaaa.PSchedSide
set_option linter.unusedVariables false
set_option linter.unusedSimpArgs false
/-- A machine made of rows, each of its own. -/
theorem IsM.make {w : World} {g : Nat} {J W S G O : Value} {m : Mach} (hb : w.heap[g]? = some (.cells (cellsM ⟨J, W, S, G, O⟩ m) 97 (0, 0))) (b0 b1 b2 b3 : Nat) (h01 : b0 ≤ b1) (h12 : b1 ≤ b2) (h23 : b2 ≤ b3)
    (hJ : Own (Kd.int .i64) 3 w J m.jobs) (hJ0 : ∀ k, some k = J.ownBlock → k < b0) (hW : Own k99 99 w W m.workers) (hS : Own (Kd.int .i64) 3 w S m.sent) (hS0 : ∀ k, some k = S.ownBlock → b1 ≤ k ∧ k < b2) (hG : Own (Kd.int .i64) 3 w G m.given) (hG0 : ∀ k, some k = G.ownBlock → b2 ≤ k ∧ k < b3) (hO : Own (Kd.int .i64) 3 w O m.got) (hO0 : ∀ k, some k = O.ownBlock → b3 ≤ k) : IsM w g ⟨J, W, S, G, O⟩ m :=
  ⟨hb, hJ, hW, hS, hG, hO, fun k a b => by have := hJ0 k a; have := hS0 k b; omega, fun k a b => by have := hJ0 k a; have := hG0 k b; omega, fun k a b => by have := hJ0 k a; have := hO0 k b; omega,
    fun k a b => by have := hS0 k a; have := hG0 k b; omega, fun k a b => by have := hS0 k a; have := hO0 k b; omega, fun k a b => by have := hG0 k a; have := hO0 k b; omega⟩
set_option maxHeartbeats 8000000 in
set_option maxRecDepth 1000000 in
theorem copy_calls (w : World) (g : Nat) (s : Sh) (m : Mach) (hI : IsM w g s m) (hO : Ok m) : Calls Try.prog 42 #[ptr g] w fun e w' => ∃ g2 s2, e = .returned (ptr g2) ∧ IsM w' g2 s2 m ∧ Below w.heap.size w w' ∧ s2.J = s.J ∧ ∀ k, Foot g2 s2 k → w.heap.size ≤ k := by
  obtain ⟨AJ, cJ, AW, cW, AS, cS, AG, cG, AO, cO, rfl⟩ := hI.slices
  have HL1 := Aside0.mk (show m.workers.length * 24 ≤ 140737488355328 from by have := hO.nw; have := hO.pw; omega)
  have HL3 := Aside0.mk (show m.sent.length * 8 ≤ 140737488355328 from by have := hO.ns; have := hO.pj; omega)
  have HL4 := Aside0.mk (show m.given.length * 8 ≤ 140737488355328 from by have := hO.ng; have := hO.pr; omega)
  have HL5 := Aside0.mk (show m.got.length * 8 ≤ 140737488355328 from by have := hO.jd; have := hO.ct; have := hO.nx; have := hO.nj; omega)
  have HI := Aside0.mk hI
  obtain ⟨W0, hW0⟩ : ∃ W0, w.alloc (.cells #[.int .i64 m.pw, .int .i64 m.pj, .int .i64 m.pr, .slice AJ m.jobs.length cJ, .int .i64 m.next, .bool m.dropped, .bool m.disp, .bool m.coll, .slice AW m.workers.length cW, .slice AS m.sent.length cS, .slice AG m.given.length cG, .int .i64 m.judged, .slice AO m.got.length cO, .bool m.stopped, .int .i64 m.outcome, .int .i64 m.picks, .int .i64 m.peak] 97) = W0 := ⟨_, rfl⟩
  have HI1 := Aside0.mk (show IsM W0 g ⟨.slice AJ m.jobs.length cJ, .slice AW m.workers.length cW, .slice AS m.sent.length cS, .slice AG m.given.length cG, .slice AO m.got.length cO⟩ m from by rw [← hW0]; exact hI.alloc _)
  have HB1 := Aside0.mk (show Below w.heap.size w W0 from by rw [← hW0]; exact below_alloc (Below.refl _ _) _)
  obtain ⟨x0, x1, x2, x3, x4, x5, x6, x7, x8, x9, x10, x11, x12, x13, x14, x15, x16⟩ := hI.cells
  obtain ⟨g2, hg2⟩ : ∃ g2, w.heap.size = g2 := ⟨_, rfl⟩
  have HG1 := Aside0.mk (show W0.heap[g2]? = some (.cells (cellsM ⟨.slice AJ m.jobs.length cJ, .slice AW m.workers.length cW, .slice AS m.sent.length cS, .slice AG m.given.length cG, .slice AO m.got.length cO⟩ m) 97 (0, 0)) from by rw [← hg2, ← hW0]; exact heap_alloc_new w _)
  have HC1 := Aside0.mk (show Kd.C k99 W0 AW m.workers.length m.workers from (Kd.R_reads' HI1.out.works).2.2)
  have HNE := Aside0.mk (show g ≠ g2 from by have := hI.lt; omega)
  have HZ := Aside0.mk hg2
  have HFAR := Aside0.mk (show ∀ k, Foot g ⟨.slice AJ m.jobs.length cJ, .slice AW m.workers.length cW, .slice AS m.sent.length cS, .slice AG m.given.length cG, .slice AO m.got.length cO⟩ k ∨ some k = Value.ownBlock (.slice AJ m.jobs.length cJ) → k ≠ g2 from fun k hk e => by rcases hk with hk | hk; (have := hI.foot_lt k hk; omega); (have := hI.jobs.lt k hk; omega))
  have y8 : W0.cell? ⟨g, 8, none⟩ = some (.slice AW m.workers.length cW) := (blk_cell HI1.out.blk 8).trans rfl
  clear hI hO
  go_enter Try.func42, Try.ntmps42
  go_wp2_with (first | (go_at_call 67; (with_reducible refine (clone_workers AW cW m.workers W0 HC1.out HL1.out).mono ?_); rintro e w1 ⟨v1, rfl, ho, hb⟩; obtain ⟨A1, c1, hv⟩ := Kd.R_slice ho; subst hv; have HW1 := Aside0.mk ho; have HBW := Aside0.mk hb; have HG1' := Aside0.mk ((hb.block _ (blk_lt HG1.out)).trans HG1.out); have q8 : w1.cell? ⟨g2, 8, none⟩ = some (.slice AW m.workers.length cW) := (blk_cell HG1'.out 8).trans rfl; have r8 := blk_frozen HG1'.out 8; clear ho hb))
  have HB2 := Aside0.mk (below_drew ((HB1.out.trans (HBW.out.mono HB1.out.size)).setCell (p := ⟨g2, 8, none⟩) (Nat.le_of_eq HZ.out) (.slice A1 m.workers.length c1)))
  have HI2 := Aside0.mk (((HI1.out.below HBW.out).far (p := ⟨g2, 8, none⟩) HFAR.out (.slice A1 m.workers.length c1)).drew)
  have HG2 := Aside0.mk (show ((w1.setCell ⟨g2, 8, none⟩ (.slice A1 m.workers.length c1)).drew).heap[g2]? = some (.cells (cellsM ⟨.slice AJ m.jobs.length cJ, .slice A1 m.workers.length c1, .slice AS m.sent.length cS, .slice AG m.given.length cG, .slice AO m.got.length cO⟩ m) 97 (0, 0)) from blk_set HG1'.out 8 _)
  have HW2 := Aside0.mk (Kd.R_drew (Kd.R_step (w1 := w1.setCell ⟨g2, 8, none⟩ (.slice A1 m.workers.length c1)) (Kd.R_tight rfl HW1.out) (fun k hk _ => Below.heap_setCell w1 ⟨g2, 8, none⟩ _ k (fun e => ne_typed (Own.of rfl HW1.out) HG1'.out (by decide) k hk e))))
  have HWF := Aside0.mk (fun k (hk : some k = (Value.slice A1 m.workers.length c1).ownBlock) => Nat.le_trans HB1.out.size (Kd.R_base HW1.out k hk.symm))
  clear q8 r8 HBW HW1 HG1' y8 x0 x1 x2 x3 x4 x5 x6 x7 x8 x9 x10 x11 x12 x13 x14 x15 x16
  refine start_ (n := 21) (S := fun w' => w'.heap[g]? = some (.cells (cellsM ⟨.slice AJ m.jobs.length cJ, .slice AW m.workers.length cW, .slice AS m.sent.length cS, .slice AG m.given.length cG, .slice AO m.got.length cO⟩ m) 97 (0, 0))) (ds := []) #[false, false, false, false, false, false, false, false, false, false, false, false, false, false, false, false, false, false, false, false, false] (by kernel_rfl) rfl rfl HI2.out.blk (fun hHeld => ?_)
  generalize (w1.setCell ⟨g2, 8, none⟩ (.slice A1 m.workers.length c1)).drew = W at HI2 HG2 HB2 HW2 hHeld ⊢
  refine pure_ (i := 0) (N := (some 13)) (v := ?_) (a' := ?_) #[true, false, false, false, false, false, false, false, false, false, false, false, false, false, false, false, false, false, false, false, false] rfl rfl (by kernel_rfl) (fun _ _ _ h => h) (Or.inl ⟨by rfl, ?_⟩) ?_ ?_
  rotate_left
  · intro w'
    go_simp
    with_reducible rfl
  rotate_left
  · simp only [Act.put, List.setIfInBounds_toArray, List.set_cons_zero, List.set_cons_succ, i64_w, i32_w]
    rfl
  refine pure_ (i := 1) (N := (some 14)) (v := ?_) (a' := ?_) #[true, true, false, false, false, false, false, false, false, false, false, false, false, false, false, false, false, false, false, false, false] rfl rfl (by kernel_rfl) (fun _ _ _ h => h) (Or.inl ⟨by rfl, ?_⟩) ?_ ?_
  rotate_left
  · intro w'
    go_simp
    with_reducible rfl
  rotate_left
  · simp only [Act.put, List.setIfInBounds_toArray, List.set_cons_zero, List.set_cons_succ, i64_w, i32_w]
    rfl
  refine pure_ (i := 2) (N := (some 15)) (v := ?_) (a' := ?_) #[true, true, true, false, false, false, false, false, false, false, false, false, false, false, false, false, false, false, false, false, false] rfl rfl (by kernel_rfl) (fun _ _ _ h => h) (Or.inl ⟨by rfl, ?_⟩) ?_ ?_
  rotate_left
  · intro w'
    go_simp
    with_reducible rfl
  rotate_left
  · simp only [Act.put, List.setIfInBounds_toArray, List.set_cons_zero, List.set_cons_succ, i64_w, i32_w]
    rfl
  refine take_ (i := 3) (N := (some 16)) (v := ?_) (a' := ?_) #[true, true, true, true, false, false, false, false, false, false, false, false, false, false, false, false, false, false, false, false, false] rfl rfl (by kernel_rfl) (fun _ _ _ h => h) (Or.inl ⟨by rfl, ?_⟩) hHeld ?_ ?_
  rotate_left
  · rintro w' s0
    have t9 : w'.cell? ⟨g, 9, none⟩ = some (.slice AS m.sent.length cS) := (blk_cell s0 9).trans rfl
    have t10 : w'.cell? ⟨g, 10, none⟩ = some (.slice AG m.given.length cG) := (blk_cell s0 10).trans rfl
    have t12 : w'.cell? ⟨g, 12, none⟩ = some (.slice AO m.got.length cO) := (blk_cell s0 12).trans rfl
    go_simp
    with_reducible rfl
  rotate_left
  · simp only [Act.put, List.setIfInBounds_toArray, List.set_cons_zero, List.set_cons_succ, i64_w, i32_w]
    rfl
  refine pure_ (i := 5) (N := (some 18)) (v := ?_) (a' := ?_) #[true, true, true, true, false, true, false, false, false, false, false, false, false, false, false, false, false, false, false, false, false] rfl rfl (by kernel_rfl) (fun _ _ _ h => h) (Or.inl ⟨by rfl, ?_⟩) ?_ ?_
  rotate_left
  · intro w'
    go_simp
    with_reducible rfl
  rotate_left
  · simp only [Act.put, List.setIfInBounds_toArray, List.set_cons_zero, List.set_cons_succ, i64_w, i32_w]
    rfl
  refine pure_ (i := 6) (N := (some 19)) (v := ?_) (a' := ?_) #[true, true, true, true, false, true, true, false, false, false, false, false, false, false, false, false, false, false, false, false, false] rfl rfl (by kernel_rfl) (fun _ _ _ h => h) (Or.inl ⟨by rfl, ?_⟩) ?_ ?_
  rotate_left
  · intro w'
    go_simp
    with_reducible rfl
  rotate_left
  · simp only [Act.put, List.setIfInBounds_toArray, List.set_cons_zero, List.set_cons_succ, i64_w, i32_w]
    rfl
  refine pure_ (i := 7) (N := (some 20)) (v := ?_) (a' := ?_) #[true, true, true, true, false, true, true, true, false, false, false, false, false, false, false, false, false, false, false, false, false] rfl rfl (by kernel_rfl) (fun _ _ _ h => h) (Or.inl ⟨by rfl, ?_⟩) ?_ ?_
  rotate_left
  · intro w'
    go_simp
    with_reducible rfl
  rotate_left
  · simp only [Act.put, List.setIfInBounds_toArray, List.set_cons_zero, List.set_cons_succ, i64_w, i32_w]
    rfl
  refine take_ (i := 8) (N := (some 21)) (v := ?_) (a' := ?_) #[true, true, true, true, false, true, true, true, true, false, false, false, false, false, false, false, false, false, false, false, false] rfl rfl (by kernel_rfl) (fun _ _ _ h => h) (Or.inl ⟨by rfl, ?_⟩) hHeld ?_ ?_
  rotate_left
  · rintro w' s0
    have t9 : w'.cell? ⟨g, 9, none⟩ = some (.slice AS m.sent.length cS) := (blk_cell s0 9).trans rfl
    have t10 : w'.cell? ⟨g, 10, none⟩ = some (.slice AG m.given.length cG) := (blk_cell s0 10).trans rfl
    have t12 : w'.cell? ⟨g, 12, none⟩ = some (.slice AO m.got.length cO) := (blk_cell s0 12).trans rfl
    go_simp
    with_reducible rfl
  rotate_left
  · simp only [Act.put, List.setIfInBounds_toArray, List.set_cons_zero, List.set_cons_succ, i64_w, i32_w]
    rfl
  refine pure_ (i := 10) (N := (some 23)) (v := ?_) (a' := ?_) #[true, true, true, true, false, true, true, true, true, false, true, false, false, false, false, false, false, false, false, false, false] rfl rfl (by kernel_rfl) (fun _ _ _ h => h) (Or.inl ⟨by rfl, ?_⟩) ?_ ?_
  rotate_left
  · intro w'
    go_simp
    with_reducible rfl
  rotate_left
  · simp only [Act.put, List.setIfInBounds_toArray, List.set_cons_zero, List.set_cons_succ, i64_w, i32_w]
    rfl
  refine pure_ (i := 11) (N := (some 24)) (v := ?_) (a' := ?_) #[true, true, true, true, false, true, true, true, true, false, true, true, false, false, false, false, false, false, false, false, false] rfl rfl (by kernel_rfl) (fun _ _ _ h => h) (Or.inl ⟨by rfl, ?_⟩) ?_ ?_
  rotate_left
  · intro w'
    go_simp
    with_reducible rfl
  rotate_left
  · simp only [Act.put, List.setIfInBounds_toArray, List.set_cons_zero, List.set_cons_succ, i64_w, i32_w]
    rfl
  refine pure_ (i := 12) (N := (some 25)) (v := ?_) (a' := ?_) #[true, true, true, true, false, true, true, true, true, false, true, true, true, false, false, false, false, false, false, false, false] rfl rfl (by kernel_rfl) (fun _ _ _ h => h) (Or.inl ⟨by rfl, ?_⟩) ?_ ?_
  rotate_left
  · intro w'
    go_simp
    with_reducible rfl
  rotate_left
  · simp only [Act.put, List.setIfInBounds_toArray, List.set_cons_zero, List.set_cons_succ, i64_w, i32_w]
    rfl
  refine take_ (i := 13) (N := (some 26)) (v := ?_) (a' := ?_) #[true, true, true, true, false, true, true, true, true, false, true, true, true, true, false, false, false, false, false, false, false] rfl rfl (by kernel_rfl) (fun _ _ _ h => h) (Or.inl ⟨by rfl, ?_⟩) hHeld ?_ ?_
  rotate_left
  · rintro w' s0
    have t9 : w'.cell? ⟨g, 9, none⟩ = some (.slice AS m.sent.length cS) := (blk_cell s0 9).trans rfl
    have t10 : w'.cell? ⟨g, 10, none⟩ = some (.slice AG m.given.length cG) := (blk_cell s0 10).trans rfl
    have t12 : w'.cell? ⟨g, 12, none⟩ = some (.slice AO m.got.length cO) := (blk_cell s0 12).trans rfl
    go_simp
    with_reducible rfl
  rotate_left
  · simp only [Act.put, List.setIfInBounds_toArray, List.set_cons_zero, List.set_cons_succ, i64_w, i32_w]
    rfl
  refine one_ (i := 4) (N := (some 17)) #[true, true, true, true, true, true, true, true, true, false, true, true, true, true, false, false, false, false, false, false, false] rfl rfl (by kernel_rfl) (by decide) (fun K hK => ?_)
  refine goes_ Try.func52 (by kernel_rfl) rfl #[.slice AS m.sent.length cS] (by rfl) rfl rfl (by simp only [List.map_toArray, List.map_cons, List.map_nil]; rfl) ?_
  refine (copied_calls AS cS m.sent _ (Kd.R_reads' HI2.out.sent).2.2 HL3.out).mono ?_
  rintro e w3 ⟨v3, rfl, ho, hb⟩
  refine ⟨_, rfl, ?_⟩
  obtain ⟨A3, c3, hv3⟩ := Kd.R_slice ho
  subst hv3
  have HO3 := Aside0.mk ho
  have HB3 := Aside0.mk hb
  have HI3 := Aside0.mk (HI2.out.below hb)
  have HG3 := Aside0.mk ((hb.block _ (blk_lt HG2.out)).trans HG2.out)
  clear ho hb
  refine hK.out _ _ HI3.out.blk (fun hHeld => ?_)
  clear hK K
  refine norm_ (a' := ?_) ?_ ?_
  rotate_left
  · show Act.put _ (some 17) _ = _
    simp only [Act.put, List.setIfInBounds_toArray, List.set_cons_zero, List.set_cons_succ, i64_w, i32_w]
    rfl
  refine one_ (i := 9) (N := (some 22)) #[true, true, true, true, true, true, true, true, true, true, true, true, true, true, false, false, false, false, false, false, false] rfl rfl (by kernel_rfl) (by decide) (fun K hK => ?_)
  refine goes_ Try.func52 (by kernel_rfl) rfl #[.slice AG m.given.length cG] (by rfl) rfl rfl (by simp only [List.map_toArray, List.map_cons, List.map_nil]; rfl) ?_
  refine (copied_calls AG cG m.given _ (Kd.R_reads' HI3.out.given).2.2 HL4.out).mono ?_
  rintro e w4 ⟨v4, rfl, ho, hb⟩
  refine ⟨_, rfl, ?_⟩
  obtain ⟨A4, c4, hv4⟩ := Kd.R_slice ho
  subst hv4
  have HO4 := Aside0.mk ho
  have HB4 := Aside0.mk hb
  have HI4 := Aside0.mk (HI3.out.below hb)
  have HG4 := Aside0.mk ((hb.block _ (blk_lt HG3.out)).trans HG3.out)
  clear ho hb
  refine hK.out _ _ HI4.out.blk (fun hHeld => ?_)
  clear hK K
  refine norm_ (a' := ?_) ?_ ?_
  rotate_left
  · show Act.put _ (some 22) _ = _
    simp only [Act.put, List.setIfInBounds_toArray, List.set_cons_zero, List.set_cons_succ, i64_w, i32_w]
    rfl
  refine one_ (i := 14) (N := (some 27)) #[true, true, true, true, true, true, true, true, true, true, true, true, true, true, true, false, false, false, false, false, false] rfl rfl (by kernel_rfl) (by decide) (fun K hK => ?_)
  refine goes_ Try.func52 (by kernel_rfl) rfl #[.slice AO m.got.length cO] (by rfl) rfl rfl (by simp only [List.map_toArray, List.map_cons, List.map_nil]; rfl) ?_
  refine (copied_calls AO cO m.got _ (Kd.R_reads' HI4.out.got).2.2 HL5.out).mono ?_
  rintro e w5 ⟨v5, rfl, ho, hb⟩
  refine ⟨_, rfl, ?_⟩
  obtain ⟨A5, c5, hv5⟩ := Kd.R_slice ho
  subst hv5
  have HO5 := Aside0.mk ho
  have HB5 := Aside0.mk hb
  have HI5 := Aside0.mk (HI4.out.below hb)
  have HG5 := Aside0.mk ((hb.block _ (blk_lt HG4.out)).trans HG4.out)
  clear ho hb
  have q9 : w5.cell? ⟨g2, 9, none⟩ = some (.slice AS m.sent.length cS) := (blk_cell HG5.out 9).trans rfl
  have q10 : w5.cell? ⟨g2, 10, none⟩ = some (.slice AG m.given.length cG) := (blk_cell HG5.out 10).trans rfl
  have q12 : w5.cell? ⟨g2, 12, none⟩ = some (.slice AO m.got.length cO) := (blk_cell HG5.out 12).trans rfl
  have r9 := blk_frozen HG5.out 9
  have r10 := blk_frozen HG5.out 10
  have r12 := blk_frozen HG5.out 12
  refine hK.out _ _ HI5.out.blk (fun hHeld => ?_)
  clear hK K
  refine norm_ (a' := ?_) ?_ ?_
  rotate_left
  · show Act.put _ (some 27) _ = _
    simp only [Act.put, List.setIfInBounds_toArray, List.set_cons_zero, List.set_cons_succ, i64_w, i32_w]
    rfl
  refine pure_ (i := 15) (N := (some 28)) (v := ?_) (a' := ?_) #[true, true, true, true, true, true, true, true, true, true, true, true, true, true, true, true, false, false, false, false, false] rfl rfl (by kernel_rfl) (fun _ _ _ h => h) (Or.inl ⟨by rfl, ?_⟩) ?_ ?_
  rotate_left
  · intro w'
    go_simp
    with_reducible rfl
  rotate_left
  · simp only [Act.put, List.setIfInBounds_toArray, List.set_cons_zero, List.set_cons_succ, i64_w, i32_w]
    rfl
  refine one_ (i := 16) (N := none) #[true, true, true, true, true, true, true, true, true, true, true, true, true, true, true, true, true, false, false, false, false] rfl rfl (by kernel_rfl) (by decide) (fun K hK => ?_)
  refine skip_ (w1 := ?_) (by rfl) rfl ?_ ?_
  rotate_left
  · go_simp
    rfl
  refine hK.out _ _ (blk_far (p := ⟨g2, 9, none⟩) HI5.out.blk HNE.out _) (fun hHeld => ?_)
  clear hK K
  refine pure_ (i := 17) (N := (some 29)) (v := ?_) (a' := ?_) #[true, true, true, true, true, true, true, true, true, true, true, true, true, true, true, true, true, true, false, false, false] rfl rfl (by kernel_rfl) (fun _ _ _ h => h) (Or.inl ⟨by rfl, ?_⟩) ?_ ?_
  rotate_left
  · intro w'
    go_simp
    with_reducible rfl
  rotate_left
  · simp only [Act.put, List.setIfInBounds_toArray, List.set_cons_zero, List.set_cons_succ, i64_w, i32_w]
    rfl
  refine one_ (i := 18) (N := none) #[true, true, true, true, true, true, true, true, true, true, true, true, true, true, true, true, true, true, true, false, false] rfl rfl (by kernel_rfl) (by decide) (fun K hK => ?_)
  refine skip_ (w1 := ?_) (by rfl) rfl ?_ ?_
  rotate_left
  · go_simp
    rfl
  refine hK.out _ _ (blk_far (p := ⟨g2, 10, none⟩) (blk_far (p := ⟨g2, 9, none⟩) HI5.out.blk HNE.out _) HNE.out _) (fun hHeld => ?_)
  clear hK K
  refine pure_ (i := 19) (N := (some 30)) (v := ?_) (a' := ?_) #[true, true, true, true, true, true, true, true, true, true, true, true, true, true, true, true, true, true, true, true, false] rfl rfl (by kernel_rfl) (fun _ _ _ h => h) (Or.inl ⟨by rfl, ?_⟩) ?_ ?_
  rotate_left
  · intro w'
    go_simp
    with_reducible rfl
  rotate_left
  · simp only [Act.put, List.setIfInBounds_toArray, List.set_cons_zero, List.set_cons_succ, i64_w, i32_w]
    rfl
  refine one_ (i := 20) (N := none) #[true, true, true, true, true, true, true, true, true, true, true, true, true, true, true, true, true, true, true, true, true] rfl rfl (by kernel_rfl) (by decide) (fun K hK => ?_)
  refine skip_ (w1 := ?_) (by rfl) rfl ?_ ?_
  rotate_left
  · go_simp
    rfl
  refine hK.out _ _ (blk_far (p := ⟨g2, 12, none⟩) (blk_far (p := ⟨g2, 10, none⟩) (blk_far (p := ⟨g2, 9, none⟩) HI5.out.blk HNE.out _) HNE.out _) HNE.out _) (fun hHeld => ?_)
  clear hK K
  refine done_ (by kernel_rfl) ?_
  have st : ∀ {α : Type} {d : Kd α} {e : Nat} {u : Value} {ys : List α}, e ≠ 97 → Own d e w5 u ys → Own d e (((w5.setCell ⟨g2, 9, none⟩ (.slice A3 m.sent.length c3)).setCell ⟨g2, 10, none⟩ (.slice A4 m.given.length c4)).setCell ⟨g2, 12, none⟩ (.slice A5 m.got.length c5)) u ys := by
    intro α d e u ys he hu
    refine hu.at_ (fun k hk _ => ?_)
    have hne := ne_typed hu HG5.out he k hk
    exact (Below.heap_setCell _ ⟨g2, 12, none⟩ _ k hne).trans ((Below.heap_setCell _ ⟨g2, 10, none⟩ _ k hne).trans (Below.heap_setCell _ ⟨g2, 9, none⟩ _ k hne))
  have b34 : Below W.heap.size W w4 := HB3.out.trans (HB4.out.mono HB3.out.size)
  have b35 : Below W.heap.size W w5 := b34.trans (HB5.out.mono (Nat.le_trans HB3.out.size HB4.out.size))
  have b45 : Below w3.heap.size w3 w5 := HB4.out.trans (HB5.out.mono HB4.out.size)
  have blk := blk_set (blk_set (blk_set HG5.out 9 (.slice A3 m.sent.length c3)) 10 (.slice A4 m.given.length c4)) 12 (.slice A5 m.got.length c5)
  have hM := IsM.make (m := m) (J := .slice AJ m.jobs.length cJ) (W := .slice A1 m.workers.length c1) (S := .slice A3 m.sent.length c3) (G := .slice A4 m.given.length c4) (O := .slice A5 m.got.length c5) blk w.heap.size W.heap.size w3.heap.size w4.heap.size HB2.out.size HB3.out.size HB4.out.size
    (st (by decide) HI5.out.jobs) (fun k hk => HI.out.jobs.lt k hk) (st (by decide) (Own.of rfl (Kd.R_below HW2.out b35)))
    (st (by decide) (Own.of rfl (Kd.R_below HO3.out b45))) (fun k hk => ⟨Kd.R_base HO3.out k hk.symm, Kd.R_lt HO3.out k hk.symm⟩)
    (st (by decide) (Own.of rfl (Kd.R_below HO4.out HB5.out))) (fun k hk => ⟨Kd.R_base HO4.out k hk.symm, Kd.R_lt HO4.out k hk.symm⟩)
    (st (by decide) (Own.of rfl HO5.out)) (fun k hk => Kd.R_base HO5.out k hk.symm)
  have HM := Aside0.mk hM
  have HBF := Aside0.mk (show Below w.heap.size w (((w5.setCell ⟨g2, 9, none⟩ (.slice A3 m.sent.length c3)).setCell ⟨g2, 10, none⟩ (.slice A4 m.given.length c4)).setCell ⟨g2, 12, none⟩ (.slice A5 m.got.length c5)) from (((HB2.out.trans (b35.mono HB2.out.size)).setCell (Nat.le_of_eq HZ.out) _).setCell (Nat.le_of_eq HZ.out) _).setCell (Nat.le_of_eq HZ.out) _)
  have H3 := Aside0.mk (show ∀ k, some k = (Value.slice A3 m.sent.length c3).ownBlock → w.heap.size ≤ k from fun k hk => Nat.le_trans HB2.out.size (Kd.R_base HO3.out k hk.symm))
  have H4 := Aside0.mk (show ∀ k, some k = (Value.slice A4 m.given.length c4).ownBlock → w.heap.size ≤ k from fun k hk => Nat.le_trans (Nat.le_trans HB2.out.size HB3.out.size) (Kd.R_base HO4.out k hk.symm))
  have H5 := Aside0.mk (show ∀ k, some k = (Value.slice A5 m.got.length c5).ownBlock → w.heap.size ≤ k from fun k hk => Nat.le_trans (Nat.le_trans (Nat.le_trans HB2.out.size HB3.out.size) HB4.out.size) (Kd.R_base HO5.out k hk.symm))
  clear st b34 b35 b45 blk hM hHeld q9 q10 q12 r9 r10 r12
  generalize (((w5.setCell ⟨g2, 9, none⟩ (.slice A3 m.sent.length c3)).setCell ⟨g2, 10, none⟩ (.slice A4 m.given.length c4)).setCell ⟨g2, 12, none⟩ (.slice A5 m.got.length c5)) = W6 at HM HBF ⊢
  go_wp2
  go_ret
  refine ⟨g2, _, rfl, HM.out, HBF.out, rfl, ?_⟩
  rintro k (hk | hk | hk | hk | hk)
  · rw [hk]; exact Nat.le_of_eq HZ.out
  · exact HWF.out k hk
  · exact H3.out k hk
  · exact H4.out k hk
  · exact H5.out k hk
end Go.Proofs.Ythcchpbidbbiaaa.Sc
namespace Go.Proofs.Ythcchpbidbbiaaa.Sc
open Go.RowKit Go.Proofs.YthcchpbidbbiaaaW.PrintWords Go.Proofs.YthcchpbidbbiaaaW.PrintLast Go.Proofs.YthcchpbidbbiaaaW.PrintMore Go.Proofs.Ythcchpbidbbiaaa.PSchedSide
set_option linter.unusedVariables false
set_option linter.unusedSimpArgs false
def upd {α : Type} (f : Nat → α) (i : Nat) (x : α) : Nat → α := fun j => if j = i then x else f j
theorem upd_same {α : Type} (f : Nat → α) (i : Nat) (x : α) : upd f i x i = x := if_pos rfl
theorem upd_other {α : Type} (f : Nat → α) {i j : Nat} (x : α) (h : j ≠ i) : upd f i x j = f j := if_neg h
/-- The blocks of a machine, its jobs' list too. -/
def Blks (g : Nat) (s : Sh) (k : Nat) : Prop := Foot g s k ∨ some k = s.J.ownBlock
/-- In W the machines m 0 .. m (n - 1) lie at g 0 ..; none writes what is another's. -/
structure Fl (w0 W : World) (N : Nat → Prop) (n : Nat) (g : Nat → Nat) (m : Nat → Mach) : Prop where
  out : ∃ s : Nat → Sh, (∀ i, i < n → IsM W (g i) (s i) (m i) ∧ ∀ k, Blks (g i) (s i) k → w0.heap.size ≤ k ∧ ¬ N k) ∧ ∀ i j, i < n → j < n → i ≠ j → ∀ k, Foot (g i) (s i) k → ¬ Blks (g j) (s j) k
  nlt : ∀ k, N k → w0.heap.size ≤ k ∧ k < W.heap.size
  bel : Below w0.heap.size w0 W
  inv : ∀ i, i < n → Inv (m i)
section
variable {w0 W W' : World} {N : Nat → Prop} {n : Nat} {g : Nat → Nat} {m : Nat → Mach}
theorem Fl.pass (h : Fl w0 W N n g m) (hb : Below W.heap.size W W') : Fl w0 W' N n g m := by
  obtain ⟨s, h1, h2⟩ := h.out
  exact ⟨⟨s, fun i hi => ⟨(h1 i hi).1.below hb, (h1 i hi).2⟩, h2⟩, fun k hk => ⟨(h.nlt k hk).1, Nat.lt_of_lt_of_le (h.nlt k hk).2 hb.size⟩, h.bel.trans (hb.mono h.bel.size), h.inv⟩
/-- One of them, alone. -/
theorem Fl.run (h : Fl w0 W N n g m) {i : Nat} (hi : i < n) : Run w0 W N (g i) (m i) := by
  obtain ⟨s, h1, h2⟩ := h.out
  exact ⟨⟨s i, (h1 i hi).1, (h1 i hi).2⟩, h.nlt, h.bel, h.inv i hi⟩
/-- One of them moves. -/
theorem Fl.moved {s : Nat → Sh} {i : Nat} {m' : Mach} (h : Fl w0 W N n g m) (hi : i < n) (h1 : ∀ i, i < n → IsM W (g i) (s i) (m i) ∧ ∀ k, Blks (g i) (s i) k → w0.heap.size ≤ k ∧ ¬ N k) (h2 : ∀ i j, i < n → j < n → i ≠ j → ∀ k, Foot (g i) (s i) k → ¬ Blks (g j) (s j) k) (hM : Moved W (g i) (s i) m' W') (hinv : Inv m') : Fl w0 W' N n g (upd m i m') ∧ Held W W' N := by
  obtain ⟨hr, hh⟩ := (h.run hi).moved (h1 i hi).1 (h1 i hi).2 hM hinv
  obtain ⟨⟨s', hI', hJ, hF'⟩, hk, ho, ht, hp⟩ := hM
  have hlt : ∀ j, j < n → ∀ k, Blks (g j) (s j) k → k < W.heap.size := by
    rintro j hj k (hf | hf)
    · exact (h1 j hj).1.foot_lt k hf
    · exact (h1 j hj).1.jobs.lt k hf
  have hB' : ∀ k, Blks (g i) s' k → Blks (g i) (s i) k ∨ W.heap.size ≤ k := by
    rintro k (hf | hf)
    · rcases hF' k hf with h3 | h3
      · exact .inl (.inl h3)
      · exact .inr h3
    · rw [hJ] at hf
      exact .inl (.inr hf)
  refine ⟨⟨⟨upd s i s', fun j hj => ?_, fun a b ha hb hab k hf => ?_⟩, hr.nlt, hr.bel, fun j hj => ?_⟩, hh⟩
  · by_cases e : j = i
    · subst e
      rw [upd_same, upd_same]
      refine ⟨hI', fun k hk' => ?_⟩
      rcases hB' k hk' with h3 | h3
      · exact (h1 j hj).2 k h3
      · exact ⟨Nat.le_trans h.bel.size h3, fun hn => by have := (h.nlt k hn).2; omega⟩
    · rw [upd_other _ _ e, upd_other _ _ e]
      exact ⟨(h1 j hj).1.kept hk (fun k hb hf => h2 i j hi hj (Ne.symm e) k hf hb), (h1 j hj).2⟩
  · by_cases ea : a = i
    · subst ea
      have eb : b ≠ a := Ne.symm hab
      rw [upd_same] at hf
      rw [upd_other _ _ eb]
      intro hb'
      rcases hF' k hf with h3 | h3
      · exact h2 a b ha hb hab k h3 hb'
      · have := hlt b hb k hb'; omega
    · rw [upd_other _ _ ea] at hf
      by_cases eb : b = i
      · subst eb
        rw [upd_same]
        intro hb'
        rcases hB' k hb' with h3 | h3
        · exact h2 a b ha hb hab k hf h3
        · have := hlt a ha k (.inl hf); omega
      · rw [upd_other _ _ eb]
        exact h2 a b ha hb hab k hf
  · by_cases e : j = i
    · subst e; rw [upd_same]; exact hinv
    · rw [upd_other _ _ e]; exact h.inv j hj
theorem fl_pick (h : Fl w0 W N n g m) {i : Nat} (hi : i < n) (k : Int) (hx : mvs (m i) ≠ []) : Calls Try.prog 19 #[ptr (g i), .int .i64 k] W fun e w' => e = .returned (.tuple #[(evOf (m i) (picked (m i) k)).v, .int .i64 0]) ∧ Fl w0 w' N n g (upd m i (step (m i) (picked (m i) k))) ∧ Held W w' N := by
  obtain ⟨s, h1, h2⟩ := h.out
  refine (pick_some W (g i) (s i) (m i) k (h1 i hi).1 (h.inv i hi).ok (inv_picks (h.inv i hi)) hx).mono ?_
  rintro e w' ⟨rfl, hM⟩
  exact ⟨rfl, h.moved hi h1 h2 hM (inv_step (h.inv i hi) (picked_mem k hx))⟩
theorem fl_take (h : Fl w0 W N n g m) {i : Nat} (hi : i < n) (x : S64) (hx : x ∈ mvs (m i)) : Calls Try.prog 30 #[ptr (g i), .agg #[.int .i64 x.f0, .int .i64 x.f1]] W fun e w' => e = .returned (.tuple #[(evOf (m i) x).v, .int .i64 0]) ∧ Fl w0 w' N n g (upd m i (step (m i) x)) ∧ Held W w' N := by
  obtain ⟨s, h1, h2⟩ := h.out
  refine (take_yes W (g i) (s i) (m i) x _ (h1 i hi).1 (h.inv i hi).ok (inv_picks (h.inv i hi)) hx (mvs_stop hx)).mono ?_
  rintro e w' ⟨rfl, hM⟩
  exact ⟨rfl, h.moved hi h1 h2 hM (inv_step (h.inv i hi) hx)⟩
theorem fl_cancel (h : Fl w0 W N n g m) {i : Nat} (hi : i < n) (hc : canStop (m i) = true) : Calls Try.prog 18 #[ptr (g i)] W fun e w' => e = .returned (.bool true) ∧ Fl w0 w' N n g (upd m i { m i with stopped := true }) ∧ Held W w' N := by
  obtain ⟨s, h1, h2⟩ := h.out
  refine (cancel_yes W (g i) (s i) (m i) (h1 i hi).1 (h.inv i hi).ok hc).mono ?_
  rintro e w' ⟨rfl, hM⟩
  have hs : (m i).stopped = false := by simp [canStop] at hc; exact hc.1
  exact ⟨rfl, h.moved hi h1 h2 hM (inv_stop (h.inv i hi) hs)⟩
theorem foot_jobs {w : World} {g : Nat} {s : Sh} {m : Mach} (hI : IsM w g s m) : ∀ k, Foot g s k → some k ≠ s.J.ownBlock := by
  rintro k (hk | hk | hk | hk | hk) hj
  · subst hk
    exact Kd.R_ne hI.jobs hI.blk (by decide) hj
  · obtain ⟨c1, e1⟩ := Kd.R_typed hI.works k hk.symm
    obtain ⟨c2, e2⟩ := Kd.R_typed hI.jobs k hj.symm
    rw [e1] at e2; injection e2 with e2; injection e2 with _ e2; exact absurd e2 (by decide)
  · exact hI.js k hj hk
  · exact hI.jg k hj hk
  · exact hI.jo k hj hk
/-- A copy is one more. -/
theorem fl_copy (h : Fl w0 W N n g m) {i : Nat} (hi : i < n) : Calls Try.prog 42 #[ptr (g i)] W fun e w' => ∃ g2, e = .returned (ptr g2) ∧ Fl w0 w' N (n + 1) (upd g n g2) (upd m n (m i)) ∧ Below W.heap.size W w' := by
  obtain ⟨s, h1, h2⟩ := h.out
  refine (copy_calls W (g i) (s i) (m i) (h1 i hi).1 (h.inv i hi).ok).mono ?_
  rintro e w' ⟨g2, s2, rfl, hI, hb, hJ, hF⟩
  have hp := h.pass hb
  have hlt : ∀ j, j < n → ∀ k, Blks (g j) (s j) k → k < W.heap.size := by
    rintro j hj k (hf | hf)
    · exact (h1 j hj).1.foot_lt k hf
    · exact (h1 j hj).1.jobs.lt k hf
  have hni : i ≠ n := by omega
  refine ⟨g2, rfl, ⟨⟨upd s n s2, fun j hj => ?_, fun a b ha hb' hab k hf => ?_⟩, hp.nlt, hp.bel, fun j hj => ?_⟩, hb⟩
  · by_cases e : j = n
    · subst e
      rw [upd_same, upd_same, upd_same]
      refine ⟨hI, ?_⟩
      rintro k (hk | hk)
      · exact ⟨Nat.le_trans h.bel.size (hF k hk), fun hn => by have := (h.nlt k hn).2; have := hF k hk; omega⟩
      · rw [hJ] at hk
        exact (h1 i hi).2 k (.inr hk)
    · rw [upd_other _ _ e, upd_other _ _ e, upd_other _ _ e]
      exact ⟨(h1 j (by omega)).1.below hb, (h1 j (by omega)).2⟩
  · by_cases ea : a = n
    · subst ea
      have eb : b ≠ a := Ne.symm hab
      rw [upd_same, upd_same] at hf
      rw [upd_other _ _ eb, upd_other _ _ eb]
      intro hb2
      have := hlt b (by omega) k hb2
      have := hF k hf
      omega
    · rw [upd_other _ _ ea, upd_other _ _ ea] at hf
      have ha' : a < n := by omega
      by_cases eb : b = n
      · subst eb
        rw [upd_same, upd_same]
        rintro (hb2 | hb2)
        · have := hlt a ha' k (.inl hf)
          have := hF k hb2
          omega
        · rw [hJ] at hb2
          by_cases e : a = i
          · subst e
            exact foot_jobs (h1 a ha').1 k hf hb2
          · exact h2 a i ha' hi e k hf (.inr hb2)
      · rw [upd_other _ _ eb, upd_other _ _ eb]
        exact h2 a b ha' (by omega) hab k hf
  · by_cases e : j = n
    · subst e; rw [upd_same]; exact h.inv i hi
    · rw [upd_other _ _ e]; exact h.inv j (by omega)
end
end Go.Proofs.Ythcchpbidbbiaaa.Sc
namespace Go.Proofs.Ythcchpbidbbiaaa.Sc
open Go.RowKit Go.Proofs.YthcchpbidbbiaaaW.PrintWords Go.Proofs.YthcchpbidbbiaaaW.PrintLast Go.Proofs.YthcchpbidbbiaaaW.PrintMore Go.Proofs.Ythcchpbidbbiaaa.PSchedSide
set_option linter.unusedVariables false
set_option linter.unusedSimpArgs false
/-- The same but for the peak. -/
def Like (a b : Mach) : Prop := ∃ p, b = { a with peak := p }
theorem Like.refl (a : Mach) : Like a a := ⟨a.peak, rfl⟩
theorem like_place {a b : Mach} (h : Like a b) (c : Int) : placeOf b c = placeOf a c ∧ placeErr b c = placeErr a c := by
  obtain ⟨p, rfl⟩ := h
  exact ⟨rfl, rfl⟩
theorem like_mvs {a b : Mach} (h : Like a b) : mvs b = mvs a := by
  obtain ⟨p, rfl⟩ := h
  have : ∀ k, mvTo { a with peak := p } k = mvTo a k := by
    intro k
    induction k with
    | zero => rfl
    | succ k ih => rw [mvTo, mvTo, ih]; rfl
  unfold mvs
  exact this _
theorem like_meas {a b : Mach} (h : Like a b) : measOf b = measOf a := by
  obtain ⟨p, rfl⟩ := h
  rw [measOf_eq, measOf_eq]
  rfl
theorem like_rest {a b : Mach} (h : Like a b) : b.sent = a.sent ∧ b.given = a.given ∧ b.got = a.got ∧ b.picks = a.picks ∧ b.outcome = a.outcome ∧ doneOf b = doneOf a ∧ b.jobs = a.jobs ∧ b.workers = a.workers := by
  obtain ⟨p, rfl⟩ := h
  exact ⟨rfl, rfl, rfl, rfl, rfl, rfl, rfl, rfl⟩
end Go.Proofs.Ythcchpbidbbiaaa.Sc
namespace Go.Proofs.Ythcchpbidbbiaaa.Sc
open Go.RowKit Go.Proofs.YthcchpbidbbiaaaW.PrintWords Go.Proofs.YthcchpbidbbiaaaW.PrintLast Go.Proofs.YthcchpbidbbiaaaW.PrintMore Go.Proofs.Ythcchpbidbbiaaa.PSchedSide
set_option linter.unusedVariables false
set_option linter.unusedSimpArgs false
theorem same_ints (l : List Int) (hl : l.length ≤ 1000000) : organonlaw18_sameInts.f (l.length + 1) l l = some true := by
  have key : ∀ (d k i : Nat), l.length - i = d → d < k → i ≤ l.length → organonlaw18_sameInts.l0 k l l i = some true := by
    intro d
    induction d with
    | zero =>
      intro k i h0 h1 h2
      obtain ⟨k, rfl⟩ : ∃ m, k = m + 1 := ⟨k - 1, by omega⟩
      simp only [organonlaw18_sameInts.l0]
      rw [if_neg (by omega)]
    | succ d ih =>
      intro k i h0 h1 h2
      obtain ⟨k, rfl⟩ : ∃ m, k = m + 1 := ⟨k - 1, by omega⟩
      simp only [organonlaw18_sameInts.l0]
      rw [if_pos (by omega), if_pos (by omega), if_pos (by omega), if_pos trivial, wrap_in (by omega) (by omega)]
      exact ih k (i + 1) (by omega) (by omega) (by omega)
  unfold organonlaw18_sameInts.f
  rw [if_pos rfl]
  exact key l.length _ 0 (by omega) (by omega) (by omega)
theorem same_ints_calls (A0 A1 : Option Addr) (c0 c1 : Nat) (l : List Int) (w : World) (hl : l.length ≤ 1000000) (h0 : Kd.C (Kd.int .i64) w A0 l.length l) (k0 : l.length ≤ c0) (h1 : Kd.C (Kd.int .i64) w A1 l.length l) (k1 : l.length ≤ c1) :
    Calls Try.prog 24 #[.slice A0 l.length c0, .slice A1 l.length c1] w fun e w' => e = .returned (.bool true) ∧ Drawn0 w w' :=
  organonlaw18_sameInts.calls (l.length + 1) A0 c0 l A1 c1 l true w h0 k0 h1 k1 (same_ints l hl)
theorem same_moves (l : List S64) (hl : l.length ≤ 1000000) : organonlaw18_sameMoves.f (l.length + 1) l l = some true := by
  have key : ∀ (d k i : Nat), l.length - i = d → d < k → i ≤ l.length → organonlaw18_sameMoves.l0 k l l i = some true := by
    intro d
    induction d with
    | zero =>
      intro k i h0 h1 h2
      obtain ⟨k, rfl⟩ : ∃ m, k = m + 1 := ⟨k - 1, by omega⟩
      simp only [organonlaw18_sameMoves.l0]
      rw [if_neg (by omega)]
    | succ d ih =>
      intro k i h0 h1 h2
      obtain ⟨k, rfl⟩ : ∃ m, k = m + 1 := ⟨k - 1, by omega⟩
      simp only [organonlaw18_sameMoves.l0]
      rw [if_pos (by omega), if_pos (by omega), if_pos (by omega), if_neg (by simp), wrap_in (by omega) (by omega)]
      exact ih k (i + 1) (by omega) (by omega) (by omega)
  unfold organonlaw18_sameMoves.f
  rw [if_pos rfl]
  exact key l.length _ 0 (by omega) (by omega) (by omega)
theorem same_moves_calls (A0 A1 : Option Addr) (c0 c1 : Nat) (l : List S64) (w : World) (hl : l.length ≤ 1000000) (h0 : Kd.C k64 w A0 l.length l) (k0 : l.length ≤ c0) (h1 : Kd.C k64 w A1 l.length l) (k1 : l.length ≤ c1) :
    Calls Try.prog 44 #[.slice A0 l.length c0, .slice A1 l.length c1] w fun e w' => e = .returned (.bool true) ∧ Drawn0 w w' :=
  organonlaw18_sameMoves.calls (l.length + 1) A0 c0 l A1 c1 l true w h0 k0 h1 k1 (same_moves l hl)
end Go.Proofs.Ythcchpbidbbiaaa.Sc
