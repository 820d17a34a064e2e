/- More of what a machine tells; a new one; what every move keeps. -/
import Derived.Test.YthcchpbidbbiaaaScd
import Derived.Deep.RegionHeld3
import Derived.Laws.EntriesVeiled
namespace Go.Proofs.Ythcchpbidbbiaaa.Sc
open Go.RowKit Go.Proofs.YthcchpbidbbiaaaW.PrintWords Go.Proofs.YthcchpbidbbiaaaW.PrintLast Go.Proofs.YthcchpbidbbiaaaW.PrintMore Go.Proofs.Ythcchpbidbbiaaa.PSchedSide
set_option linter.unusedVariables false
set_option linter.unusedSimpArgs false
def boundOf (m : Mach) : Int := 4 * m.jobs.length + m.workers.length + 2 + m.jobs.sum
theorem sum_range {xs : List Int} (h : ∀ j ∈ xs, 0 ≤ j ∧ j ≤ 1000) : 0 ≤ xs.sum ∧ xs.sum ≤ 1000 * xs.length := by
  induction xs with
  | nil => simp
  | cons x xs ih =>
    have h1 := ih (fun j hj => h j (List.mem_cons_of_mem _ hj))
    have h2 := h x (List.mem_cons_self)
    simp only [List.sum_cons, List.length_cons]
    omega
theorem sum_take {xs : List Int} (h : ∀ j ∈ xs, 0 ≤ j ∧ j ≤ 1000) (k : Nat) : 0 ≤ (xs.take k).sum ∧ (xs.take k).sum ≤ 1000 * xs.length := by
  have h1 := sum_range (xs := xs.take k) (fun j hj => h j (List.mem_of_mem_take hj))
  have h2 : (xs.take k).length ≤ xs.length := by rw [List.length_take]; omega
  omega
theorem sum_take_succ (xs : List Int) (k : Nat) (hk : k < xs.length) : (xs.take (k + 1)).sum = (xs.take k).sum + rd xs k := by
  rw [List.take_succ_eq_append_getElem hk, List.sum_append]
  simp [rd, hk]
set_option maxHeartbeats 8000000 in
set_option maxRecDepth 1000000 in
theorem bound_calls (w : World) (g : Nat) (s : Sh) (m : Mach) (hI : IsM w g s m) (hO : Ok m) : Calls Try.prog 33 #[ptr g] w fun e w' => e = .returned (.int .i64 (boundOf m)) ∧ Below w.heap.size w w' := by
  obtain ⟨AJ, cJ, AW, cW, AS, cS, AG, cG, AO, cO, rfl⟩ := hI.slices
  have HI := Aside0.mk hI
  have bn := hO.nj
  have bw : (m.workers.length : Int) ≤ 8 := by have := hO.nw; have := hO.pw; omega
  have HJ := Aside0.mk hO.js
  have HC := Aside0.mk (Kd.R_reads' hI.jobs).2.2
  obtain ⟨x0, x1, x2, x3, x4, x5, x6, x7, x8, x9, x10, x11, x12, x13, x14, x15, x16⟩ := HI.out.cells
  clear x0 x1 x2 x4 x5 x6 x7 x9 x10 x11 x12 x13 x14 x15 x16 hI hO
  obtain ⟨js, hjs⟩ : ∃ js, m.jobs = js := ⟨_, rfl⟩
  rw [hjs] at bn HJ HC x3
  obtain ⟨n, hn⟩ : ∃ n, m.workers.length = n := ⟨_, rfl⟩
  rw [hn] at bw
  simp only [hn] at x8
  have HR := Aside0.mk (show boundOf m = 4 * js.length + n + 2 + js.sum from by unfold boundOf; rw [hjs, hn])
  clear hjs hn HI
  have hw : Below w.heap.size w w := Below.refl _ _
  have HW := Aside0.mk hw
  clear hw
  go_enter Try.func33, Try.ntmps33
  go_wp2
  go_quiet (fail)
  go_wp2
  have HB := Aside0.mk (pw_below_drewN HW.out nq)
  go_loop [3, 24] (fun t i => ∃ k : Nat, k ≤ js.length ∧ i = .int .i64 k ∧ t = .int .i64 (4 * js.length + n + 2 + (js.take k).sum)) (fun _ i => js.length - (intOf i).toNat)
  case atStart => exact ⟨0, Nat.zero_le _, rfl, by simp⟩
  case round =>
    obtain ⟨k, hk, rfl, rfl⟩ := hrel
    have hs := sum_take HJ.out k
    obtain ⟨hs0, hs1⟩ := hs
    by_cases hlt : k < js.length
    · have p0 : decide ((k : Int) < (js.length : Int)) = true := decide_eq_true (by omega)
      have q0 := eq_true (show (k : Int) < (js.length : Int) by omega)
      have HS := Aside0.mk (sum_take_succ js k hlt)
      have hs' := sum_take HJ.out (k + 1)
      rw [HS.out] at hs'
      obtain ⟨hs2, hs3⟩ := hs'
      obtain ⟨ad, ead, hx⟩ := Kd.at_int HC.out k (Int.natCast_nonneg _) (by omega)
      subst ead
      rw [Int.toNat_natCast] at hx
      have hxr : 0 ≤ rd js k ∧ rd js k ≤ 1000 := by
        unfold rd
        rw [Int.toNat_natCast, List.getD_eq_getElem?_getD, List.getElem?_eq_getElem hlt]
        exact HJ.out _ (List.getElem_mem hlt)
      obtain ⟨hx0, hx1⟩ := hxr
      obtain ⟨x, hxx⟩ : ∃ x, rd js k = x := ⟨_, rfl⟩
      rw [hxx] at hx hx0 hx1 hs2 hs3
      obtain ⟨t, ht⟩ : ∃ t, (js.take k).sum = t := ⟨_, rfl⟩
      rw [ht] at hs0 hs1 hs2 hs3 ⊢
      have HT := Aside0.mk (show (js.take (k + 1)).sum = t + x from by rw [HS.out, ht, hxx])
      clear ht hxx
      go_wp2
      go_round
      case rel => exact ⟨k + 1, by omega, by go_num, by rw [HT.out]; go_num⟩
      case measure => simp [intOf]; omega
    · have p0 : decide ((k : Int) < (js.length : Int)) = false := decide_eq_false (by omega)
      have hkn : k = js.length := by omega
      subst hkn
      rw [List.take_length] at hs0 hs1 ⊢
      go_wp2
      go_ret
      exact ⟨by rw [HR.out]; go_num, HB.out⟩
end Go.Proofs.Ythcchpbidbbiaaa.Sc
namespace Go.Proofs.Ythcchpbidbbiaaa.Sc
open Go.RowKit Go.Proofs.YthcchpbidbbiaaaW.PrintWords Go.Proofs.YthcchpbidbbiaaaW.PrintLast Go.Proofs.YthcchpbidbbiaaaW.PrintMore Go.Proofs.Ythcchpbidbbiaaa.PSchedSide
set_option linter.unusedVariables false
set_option linter.unusedSimpArgs false
set_option maxHeartbeats 8000000 in
set_option maxRecDepth 1000000 in
theorem waiting_calls (w : World) (g : Nat) (s : Sh) (m : Mach) (hI : IsM w g s m) (hO : Ok m) : Calls Try.prog 23 #[ptr g] w fun e w' => ∃ v1 v2 W1 B, e = .returned (.tuple #[v1, v2]) ∧ Kd.R (Kd.int .i64) 3 W1 w.heap.size (fun _ => True) v1 m.sent ∧ Below W1.heap.size W1 w' ∧ Kd.R (Kd.int .i64) 3 w' B (fun _ => True) v2 m.given ∧ W1.heap.size ≤ B ∧ Below w.heap.size w w' := by
  obtain ⟨AJ, cJ, AW, cW, AS, cS, AG, cG, AO, cO, rfl⟩ := hI.slices
  have HL1 := Aside0.mk (show m.sent.length * 8 ≤ 140737488355328 from by have := hO.ns; have := hO.pj; omega)
  have HL2 := Aside0.mk (show m.given.length * 8 ≤ 140737488355328 from by have := hO.ng; have := hO.pr; omega)
  have HI := Aside0.mk hI.drew
  have HBW := Aside0.mk (below_drew (Below.refl w.heap.size w))
  clear hI hO
  go_enter Try.func23, Try.ntmps23
  go_wp2
  refine start_ (n := 12) (S := fun w' => w'.heap[g]? = some (.cells (cellsM ⟨.slice AJ m.jobs.length cJ, .slice AW m.workers.length cW, .slice AS m.sent.length cS, .slice AG m.given.length cG, .slice AO m.got.length cO⟩ m) 97 (0, 0))) (ds := []) #[false, false, false, false, false, false, false, false, false, false, false, false] (by kernel_rfl) rfl rfl HI.out.blk (fun hHeld => ?_)
  generalize w.drew = W at HI HBW hHeld ⊢
  refine pure_ (i := 0) (N := (some 4)) (v := ?_) (a' := ?_) #[true, false, false, false, false, false, false, false, false, false, false, false] rfl rfl (by kernel_rfl) (fun _ _ _ h => h) (Or.inl ⟨by rfl, ?_⟩) ?_ ?_
  rotate_left
  · intro w'
    go_simp
    with_reducible rfl
  rotate_left
  · simp only [Act.put, List.setIfInBounds_toArray, List.set_cons_zero, List.set_cons_succ, i64_w, i32_w]
    rfl
  refine pure_ (i := 1) (N := (some 5)) (v := ?_) (a' := ?_) #[true, true, false, false, false, false, false, false, false, false, false, false] rfl rfl (by kernel_rfl) (fun _ _ _ h => h) (Or.inl ⟨by rfl, ?_⟩) ?_ ?_
  rotate_left
  · intro w'
    go_simp
    with_reducible rfl
  rotate_left
  · simp only [Act.put, List.setIfInBounds_toArray, List.set_cons_zero, List.set_cons_succ, i64_w, i32_w]
    rfl
  refine pure_ (i := 2) (N := (some 6)) (v := ?_) (a' := ?_) #[true, true, true, false, false, false, false, false, false, false, false, false] rfl rfl (by kernel_rfl) (fun _ _ _ h => h) (Or.inl ⟨by rfl, ?_⟩) ?_ ?_
  rotate_left
  · intro w'
    go_simp
    with_reducible rfl
  rotate_left
  · simp only [Act.put, List.setIfInBounds_toArray, List.set_cons_zero, List.set_cons_succ, i64_w, i32_w]
    rfl
  refine take_ (i := 3) (N := (some 7)) (v := ?_) (a' := ?_) #[true, true, true, true, false, false, false, false, false, false, false, false] rfl rfl (by kernel_rfl) (fun _ _ _ h => h) (Or.inl ⟨by rfl, ?_⟩) hHeld ?_ ?_
  rotate_left
  · rintro w' s0
    have t9 : w'.cell? ⟨g, 9, none⟩ = some (.slice AS m.sent.length cS) := (blk_cell s0 9).trans rfl
    have t10 : w'.cell? ⟨g, 10, none⟩ = some (.slice AG m.given.length cG) := (blk_cell s0 10).trans rfl
    go_simp
    with_reducible rfl
  rotate_left
  · simp only [Act.put, List.setIfInBounds_toArray, List.set_cons_zero, List.set_cons_succ, i64_w, i32_w]
    rfl
  refine pure_ (i := 5) (N := (some 9)) (v := ?_) (a' := ?_) #[true, true, true, true, false, true, false, false, false, false, false, false] rfl rfl (by kernel_rfl) (fun _ _ _ h => h) (Or.inl ⟨by rfl, ?_⟩) ?_ ?_
  rotate_left
  · intro w'
    go_simp
    with_reducible rfl
  rotate_left
  · simp only [Act.put, List.setIfInBounds_toArray, List.set_cons_zero, List.set_cons_succ, i64_w, i32_w]
    rfl
  refine pure_ (i := 6) (N := (some 10)) (v := ?_) (a' := ?_) #[true, true, true, true, false, true, true, false, false, false, false, false] rfl rfl (by kernel_rfl) (fun _ _ _ h => h) (Or.inl ⟨by rfl, ?_⟩) ?_ ?_
  rotate_left
  · intro w'
    go_simp
    with_reducible rfl
  rotate_left
  · simp only [Act.put, List.setIfInBounds_toArray, List.set_cons_zero, List.set_cons_succ, i64_w, i32_w]
    rfl
  refine pure_ (i := 7) (N := (some 11)) (v := ?_) (a' := ?_) #[true, true, true, true, false, true, true, true, false, false, false, false] rfl rfl (by kernel_rfl) (fun _ _ _ h => h) (Or.inl ⟨by rfl, ?_⟩) ?_ ?_
  rotate_left
  · intro w'
    go_simp
    with_reducible rfl
  rotate_left
  · simp only [Act.put, List.setIfInBounds_toArray, List.set_cons_zero, List.set_cons_succ, i64_w, i32_w]
    rfl
  refine take_ (i := 8) (N := (some 12)) (v := ?_) (a' := ?_) #[true, true, true, true, false, true, true, true, true, false, false, false] rfl rfl (by kernel_rfl) (fun _ _ _ h => h) (Or.inl ⟨by rfl, ?_⟩) hHeld ?_ ?_
  rotate_left
  · rintro w' s0
    have t9 : w'.cell? ⟨g, 9, none⟩ = some (.slice AS m.sent.length cS) := (blk_cell s0 9).trans rfl
    have t10 : w'.cell? ⟨g, 10, none⟩ = some (.slice AG m.given.length cG) := (blk_cell s0 10).trans rfl
    go_simp
    with_reducible rfl
  rotate_left
  · simp only [Act.put, List.setIfInBounds_toArray, List.set_cons_zero, List.set_cons_succ, i64_w, i32_w]
    rfl
  refine one_ (i := 4) (N := (some 8)) #[true, true, true, true, true, true, true, true, true, false, false, false] rfl rfl (by kernel_rfl) (by decide) (fun K hK => ?_)
  refine goes_ Try.func52 (by kernel_rfl) rfl #[.slice AS m.sent.length cS] (by rfl) rfl rfl (by simp only [List.map_toArray, List.map_cons, List.map_nil]; rfl) ?_
  refine (copied_calls AS cS m.sent _ (Kd.R_reads' HI.out.sent).2.2 HL1.out).mono ?_
  rintro e w1 ⟨v1, rfl, ho, hb⟩
  refine ⟨_, rfl, ?_⟩
  have HO1 := Aside0.mk ho
  have HB1 := Aside0.mk hb
  clear ho hb
  have HI1 := Aside0.mk (HI.out.below HB1.out)
  refine hK.out _ _ HI1.out.blk (fun hHeld => ?_)
  clear hK K
  refine norm_ (a' := ?_) ?_ ?_
  rotate_left
  · show Act.put _ (some 8) _ = _
    simp only [Act.put, List.setIfInBounds_toArray, List.set_cons_zero, List.set_cons_succ, i64_w, i32_w]
    rfl
  refine one_ (i := 9) (N := (some 13)) #[true, true, true, true, true, true, true, true, true, true, false, false] rfl rfl (by kernel_rfl) (by decide) (fun K hK => ?_)
  refine goes_ Try.func52 (by kernel_rfl) rfl #[.slice AG m.given.length cG] (by rfl) rfl rfl (by simp only [List.map_toArray, List.map_cons, List.map_nil]; rfl) ?_
  refine (copied_calls AG cG m.given _ (Kd.R_reads' HI1.out.given).2.2 HL2.out).mono ?_
  rintro e w2 ⟨v2, rfl, ho, hb⟩
  refine ⟨_, rfl, ?_⟩
  have HO2 := Aside0.mk ho
  have HB2 := Aside0.mk hb
  clear ho hb
  have HI2 := Aside0.mk (HI1.out.below HB2.out)
  refine hK.out _ _ HI2.out.blk (fun hHeld => ?_)
  clear hK K
  refine norm_ (a' := ?_) ?_ ?_
  rotate_left
  · show Act.put _ (some 13) _ = _
    simp only [Act.put, List.setIfInBounds_toArray, List.set_cons_zero, List.set_cons_succ, i64_w, i32_w]
    rfl
  refine pure_ (i := 10) (N := (some 2)) (v := ?_) (a' := ?_) #[true, true, true, true, true, true, true, true, true, true, true, false] rfl rfl (by kernel_rfl) (fun _ _ _ h => h) (Or.inl ⟨by rfl, ?_⟩) ?_ ?_
  rotate_left
  · intro w'
    go_simp
    with_reducible rfl
  rotate_left
  · simp only [Act.put, List.setIfInBounds_toArray, List.set_cons_zero, List.set_cons_succ, i64_w, i32_w]
    rfl
  refine pure_ (i := 11) (N := (some 3)) (v := ?_) (a' := ?_) #[true, true, true, true, true, true, true, true, true, true, true, true] rfl rfl (by kernel_rfl) (fun _ _ _ h => h) (Or.inl ⟨by rfl, ?_⟩) ?_ ?_
  rotate_left
  · intro w'
    go_simp
    with_reducible rfl
  rotate_left
  · simp only [Act.put, List.setIfInBounds_toArray, List.set_cons_zero, List.set_cons_succ, i64_w, i32_w]
    rfl
  refine done_ (by kernel_rfl) ?_
  go_wp2
  go_ret2
  exact ⟨v1, v2, w1, w1.heap.size, rfl, Kd.R_lower HO1.out HBW.out.size, HB2.out, HO2.out, Nat.le_refl _, HBW.out.trans ((HB1.out.trans (HB2.out.mono HB1.out.size)).mono HBW.out.size)⟩
end Go.Proofs.Ythcchpbidbbiaaa.Sc
namespace Go.Proofs.Ythcchpbidbbiaaa.Sc
open Go.RowKit Go.Proofs.YthcchpbidbbiaaaW.PrintWords Go.Proofs.YthcchpbidbbiaaaW.PrintLast Go.Proofs.YthcchpbidbbiaaaW.PrintMore Go.Proofs.Ythcchpbidbbiaaa.PSchedSide
set_option linter.unusedVariables false
set_option linter.unusedSimpArgs false
set_option maxHeartbeats 4000000 in
set_option maxRecDepth 1000000 in
theorem ended_calls (a b c : Int) (w : World) : Calls Try.prog 49 #[.agg #[.int .i64 a, .int .i64 b, .int .i64 c]] w fun e w' => e = .returned (.bool (a == 0)) ∧ Below w.heap.size w w' := by
  have HB := Aside0.mk (Below.refl w.heap.size w)
  go_enter Try.func49, Try.ntmps49
  go_wp2
  go_ret
  exact ⟨rfl, below_alloc HB.out _⟩
set_option maxHeartbeats 4000000 in
set_option maxRecDepth 1000000 in
theorem up_calls (a b c : Int) (cc : Nat) (w : World) (hc : w.heap[cc]? = some (.cells #[.func (.func 49) #[] #[]] 100 (0, 0))) : Calls Try.prog 51 #[.agg #[.int .i64 a, .int .i64 b, .int .i64 c], ptr cc] w fun e w' => e = .returned (.bool (!(a == 0))) ∧ Below w.heap.size w w' := by
  have HB := Aside0.mk (below_alloc (Below.refl w.heap.size w) (.cells #[.int .i64 a, .int .i64 b, .int .i64 c] 99))
  have c0 : (w.alloc (.cells #[.int .i64 a, .int .i64 b, .int .i64 c] 99)).cell? ⟨cc, 0, none⟩ = some (.func (.func 49) #[] #[]) := (blk_cell (blk_alloc hc _) 0).trans rfl
  clear hc
  go_enter Try.func51, Try.ntmps51
  go_wp2_with (first | (go_at_call 49; (with_reducible refine (ended_calls _ _ _ _).mono ?_); rintro e w2 ⟨rfl, hb⟩; have HB2 := Aside0.mk (HB.out.trans (hb.mono HB.out.size)); clear hb))
  go_ret
  exact ⟨rfl, HB2.out⟩
/-- Some worker has not ended. -/
def anyUp (xs : List S99) : Bool := xs.any (fun x => !(x.f0.f0 == 0))
theorem anyUp_take_succ {xs : List S99} {k : Nat} (hk : k < xs.length) : anyUp (xs.take (k + 1)) = (anyUp (xs.take k) || !((rd_T99 xs k).f0.f0 == 0)) := by
  unfold anyUp
  rw [List.take_succ_eq_append_getElem hk, List.any_append]
  simp [rd_T99, hk]
theorem anyUp_of_take {xs : List S99} {k : Nat} (h : anyUp (xs.take k) = true) : anyUp xs = true := by
  unfold anyUp at *
  rw [List.any_eq_true] at *
  obtain ⟨x, hx, h⟩ := h
  exact ⟨x, List.mem_of_mem_take hx, h⟩
set_option maxHeartbeats 4000000 in
set_option maxRecDepth 1000000 in
theorem index_calls (A : Option Addr) (c : Nat) (xs : List S99) (cc : Nat) (w : World) (h8 : xs.length ≤ 8) (hC : Kd.C k99 w A xs.length xs) (hc : w.heap[cc]? = some (.cells #[.func (.func 49) #[] #[]] 100 (0, 0))) :
    Calls Try.prog 68 #[.slice A xs.length c, .func (.func 51) #[] #[ptr cc]] w fun e w' => ∃ r : Int, e = .returned (.int .i64 r) ∧ decide (0 ≤ r) = anyUp xs ∧ Below w.heap.size w w' := by
  have HC := Aside0.mk hC
  have HCC := Aside0.mk hc
  clear hC hc
  go_enter Try.func68, Try.ntmps68
  go_wp2
  go_loopw [8] (fun i wr => ∃ k : Nat, i = .int .i64 k ∧ k ≤ xs.length ∧ anyUp (xs.take k) = false ∧ Below w.heap.size w wr) (fun i _ => xs.length - (intOf i).toNat)
  case atStart => exact ⟨0, rfl, Nat.zero_le _, rfl, Below.refl _ _⟩
  case round =>
    obtain ⟨k, rfl, hk, hu, hb⟩ := hrel
    have HU := Aside0.mk hu
    have HB := Aside0.mk hb
    clear hu hb
    by_cases hlt : k < xs.length
    · have p0 := eq_true (show (k : Int) < (xs.length : Int) by omega)
      obtain ⟨ad, ead, hy0, hy1, hy2⟩ := at_T99 HC.out k (Int.natCast_nonneg k) (by omega)
      subst ead
      simp only [Int.toNat_natCast] at hy0 hy1 hy2
      replace hy0 := pw_cell_below HB.out hy0
      replace hy1 := pw_cell_below HB.out hy1
      replace hy2 := pw_cell_below HB.out hy2
      have HT := Aside0.mk (anyUp_take_succ hlt)
      have HCB := Aside0.mk ((HB.out.block _ (blk_lt HCC.out)).trans HCC.out)
      obtain ⟨f, hf⟩ : ∃ f, (rd_T99 xs k).f0.f0 = f := ⟨_, rfl⟩
      rw [hf] at hy0 HT
      clear hf
      by_cases hz : f = 0
      · have b0 : (f == 0) = true := by simp [hz]
        have HT2 := Aside0.mk (show anyUp (xs.take (k + 1)) = false from by rw [HT.out, HU.out, b0]; rfl)
        clear hz
        go_wp2_with (first | (go_at_call 51; (with_reducible refine (up_calls _ _ _ cc _ HCB.out).mono ?_); rintro e w2 ⟨rfl, hb⟩; have HB2 := Aside0.mk (HB.out.trans (hb.mono HB.out.size)); clear hb))
        go_roundw
        case rel => exact ⟨k + 1, by go_num, by omega, HT2.out, HB2.out⟩
        case measure => simp [intOf]; omega
      · have b0 : (f == 0) = false := by simp [hz]
        have HT2 := Aside0.mk (show anyUp xs = true from anyUp_of_take (k := k + 1) (by rw [HT.out, b0]; simp))
        clear hz
        go_wp2_with (first | (go_at_call 51; (with_reducible refine (up_calls _ _ _ cc _ HCB.out).mono ?_); rintro e w2 ⟨rfl, hb⟩; have HB2 := Aside0.mk (HB.out.trans (hb.mono HB.out.size)); clear hb))
        go_ret
        exact ⟨k, rfl, by rw [HT2.out]; simp, HB2.out⟩
    · have p0 : decide ((k : Int) < (xs.length : Int)) = false := decide_eq_false (by omega)
      have hkn : k = xs.length := by omega
      subst hkn
      have HT2 := Aside0.mk (show anyUp xs = false from by have := HU.out; rwa [List.take_length] at this)
      go_wp2
      go_ret
      exact ⟨-1, rfl, by rw [HT2.out]; rfl, HB.out⟩
set_option maxHeartbeats 4000000 in
set_option maxRecDepth 1000000 in
theorem contains_calls (A : Option Addr) (c : Nat) (xs : List S99) (cc : Nat) (w : World) (h8 : xs.length ≤ 8) (hC : Kd.C k99 w A xs.length xs) (hc : w.heap[cc]? = some (.cells #[.func (.func 49) #[] #[]] 100 (0, 0))) :
    Calls Try.prog 50 #[.slice A xs.length c, .func (.func 51) #[] #[ptr cc]] w fun e w' => e = .returned (.bool (anyUp xs)) ∧ Below w.heap.size w w' := by
  have HC := Aside0.mk hC
  have HCC := Aside0.mk hc
  clear hC hc
  go_enter Try.func50, Try.ntmps50
  go_wp2_with (first | (go_at_call 68; (with_reducible refine (index_calls _ _ _ _ _ h8 HC.out HCC.out).mono ?_); rintro e w2 ⟨r, rfl, hr, hb⟩; have HB2 := Aside0.mk hb; clear hb))
  go_ret
  exact ⟨rfl, HB2.out⟩
def doneOf (m : Mach) : Bool := !m.disp && !m.coll && !anyUp m.workers
set_option maxHeartbeats 4000000 in
set_option maxRecDepth 1000000 in
theorem done_calls (w : World) (g : Nat) (s : Sh) (m : Mach) (hI : IsM w g s m) (hO : Ok m) : Calls Try.prog 17 #[ptr g] w fun e w' => e = .returned (.bool (doneOf m)) ∧ Below w.heap.size w w' := by
  obtain ⟨AJ, cJ, AW, cW, AS, cS, AG, cG, AO, cO, rfl⟩ := hI.slices
  have b8 : m.workers.length ≤ 8 := by have := hO.nw; have := hO.pw; omega
  have HI := Aside0.mk (hI.alloc (.cells #[.func (.func 49) #[] #[]] 100))
  have HB := Aside0.mk (below_alloc (Below.refl w.heap.size w) (.cells #[.func (.func 49) #[] #[]] 100))
  have HE := Aside0.mk (heap_alloc_new w (.cells #[.func (.func 49) #[] #[]] 100))
  have HC := Aside0.mk (Kd.R_reads' HI.out.works).2.2
  obtain ⟨x0, x1, x2, x3, x4, x5, x6, x7, x8, x9, x10, x11, x12, x13, x14, x15, x16⟩ := HI.out.cells
  have hmf := mf
  clear x0 x1 x2 x3 x4 x5 x9 x10 x11 x12 x13 x14 x15 x16 hI hO
  cases hd : m.disp with
  | true =>
    rw [hd] at x6
    have HR := Aside0.mk (show doneOf m = false from by simp [doneOf, hd])
    clear hd
    go_enter Try.func17, Try.ntmps17
    go_wp2
    go_ret
    exact ⟨by rw [HR.out]; rfl, HB.out⟩
  | false =>
    rw [hd] at x6
    cases hc : m.coll with
    | true =>
      rw [hc] at x7
      have HR := Aside0.mk (show doneOf m = false from by simp [doneOf, hc])
      clear hd hc
      go_enter Try.func17, Try.ntmps17
      go_wp2
      go_ret
      exact ⟨by rw [HR.out]; rfl, HB.out⟩
    | false =>
      rw [hc] at x7
      have HR := Aside0.mk (show doneOf m = !anyUp m.workers from by simp [doneOf, hd, hc])
      clear hd hc
      go_enter Try.func17, Try.ntmps17
      go_wp2_with (first | (go_at_call 50; (with_reducible refine (contains_calls _ _ _ _ _ b8 HC.out HE.out).mono ?_); rintro e w2 ⟨rfl, hb⟩; have HB2 := Aside0.mk (HB.out.trans (hb.mono HB.out.size)); clear hb))
      go_ret
      exact ⟨by rw [HR.out]; rfl, HB2.out⟩
/-- May it be cancelled? -/
def canStop (m : Mach) : Bool := !m.stopped && !doneOf m
set_option maxHeartbeats 4000000 in
set_option maxRecDepth 1000000 in
theorem cancel_no (w : World) (g : Nat) (s : Sh) (m : Mach) (hI : IsM w g s m) (hO : Ok m) (hn : canStop m = false) : Calls Try.prog 18 #[ptr g] w fun e w' => e = .returned (.bool false) ∧ Below w.heap.size w w' := by
  have HI := Aside0.mk hI
  have HO := Aside0.mk hO
  have HB := Aside0.mk (Below.refl w.heap.size w)
  have x := hI.cells.2.2.2.2.2.2.2.2.2.2.2.2.2.1
  cases hs : m.stopped with
  | true =>
    rw [hs] at x
    clear hI hO hn hs
    go_enter Try.func18, Try.ntmps18
    go_wp2
    go_ret
    exact ⟨rfl, HB.out⟩
  | false =>
    rw [hs] at x
    have HD := Aside0.mk (show doneOf m = true from by simpa [canStop, hs] using hn)
    clear hI hO hn hs
    go_enter Try.func18, Try.ntmps18
    go_wp2_with (first | (go_at_call 17; (with_reducible refine (done_calls _ g _ m HI.out HO.out).mono ?_); rintro e w2 ⟨rfl, hb⟩; rw [HD.out]; have HB2 := Aside0.mk hb; clear hb))
    go_ret
    exact ⟨rfl, HB2.out⟩
set_option maxHeartbeats 4000000 in
set_option maxRecDepth 1000000 in
theorem cancel_yes (w : World) (g : Nat) (s : Sh) (m : Mach) (hI : IsM w g s m) (hO : Ok m) (hn : canStop m = true) : Calls Try.prog 18 #[ptr g] w fun e w' => e = .returned (.bool true) ∧ Moved w g s { m with stopped := true } w' := by
  have HI := Aside0.mk hI
  have HO := Aside0.mk hO
  have x := hI.cells.2.2.2.2.2.2.2.2.2.2.2.2.2.1
  have hcn : m.stopped = false ∧ doneOf m = false := by simpa [canStop] using hn
  obtain ⟨hs, hd⟩ := hcn
  rw [hs] at x
  have HD := Aside0.mk hd
  clear hI hO hn hs hd
  go_enter Try.func18, Try.ntmps18
  go_wp2_with (first | (go_at_call 17; (with_reducible refine (done_calls _ g _ m HI.out HO.out).mono ?_); rintro e w2 ⟨rfl, hb⟩; rw [HD.out]; have HB2 := Aside0.mk hb; have HI2 := Aside0.mk (HI.out.below hb); have f13 := HI2.out.free 13; have c13 := pw_cell_below hb x; clear hb))
  go_ret
  exact ⟨rfl, .of (HI2.out.set 13 (.bool true) { m with stopped := true } rfl rfl rfl rfl rfl rfl) rfl (fun _ h => .inl h) (kept_own (Kept.of_below HB2.out _) 13 _) HB2.out.os HB2.out.tape HB2.out.output⟩
end Go.Proofs.Ythcchpbidbbiaaa.Sc
namespace Go.Proofs.Ythcchpbidbbiaaa.Sc
open Go.RowKit Go.Proofs.YthcchpbidbbiaaaW.PrintWords Go.Proofs.YthcchpbidbbiaaaW.PrintLast Go.Proofs.YthcchpbidbbiaaaW.PrintMore Go.Proofs.Ythcchpbidbbiaaa.PSchedSide
set_option linter.unusedVariables false
set_option linter.unusedSimpArgs false
set_option maxRecDepth 1000000 in
theorem within_true (a lo hi : Int) (w : World) (h : lo ≤ a ∧ a ≤ hi) : Calls Try.prog 47 #[.int .i64 a, .int .i64 lo, .int .i64 hi] w fun e w' => e = .returned (.bool true) ∧ Below w.heap.size w w' := by
  have HB := Aside0.mk (Below.refl w.heap.size w)
  have h1 : decide (lo ≤ a) = true := decide_eq_true h.1
  have h2 : decide (a ≤ hi) = true := decide_eq_true h.2
  clear h
  go_enter Try.func47, Try.ntmps47
  go_wp2
  go_ret
  exact ⟨rfl, HB.out⟩
set_option maxRecDepth 1000000 in
theorem within_false (a lo hi : Int) (w : World) (h : ¬ (lo ≤ a ∧ a ≤ hi)) : Calls Try.prog 47 #[.int .i64 a, .int .i64 lo, .int .i64 hi] w fun e w' => e = .returned (.bool false) ∧ Below w.heap.size w w' := by
  have HB := Aside0.mk (Below.refl w.heap.size w)
  by_cases h1 : lo ≤ a
  · have h2 : decide (a ≤ hi) = false := decide_eq_false (fun h2 => h ⟨h1, h2⟩)
    have h3 : decide (lo ≤ a) = true := decide_eq_true h1
    clear h h1
    go_enter Try.func47, Try.ntmps47
    go_wp2
    go_ret
    exact ⟨rfl, HB.out⟩
  · have h3 : decide (lo ≤ a) = false := decide_eq_false h1
    clear h h1
    go_enter Try.func47, Try.ntmps47
    go_wp2
    go_ret
    exact ⟨rfl, HB.out⟩
def PoolOk (pw pj pr : Int) : Prop := (1 ≤ pw ∧ pw ≤ 8) ∧ (1 ≤ pj ∧ pj ≤ 8) ∧ (1 ≤ pr ∧ pr ≤ 8)
def poolV (pw pj pr : Int) : Value := .agg #[.int .i64 pw, .int .i64 pj, .int .i64 pr]
set_option maxHeartbeats 4000000 in
set_option maxRecDepth 1000000 in
theorem new_bad_pool (pw pj pr : Int) (A : Option Addr) (n c : Nat) (w : World) (h : ¬ PoolOk pw pj pr) : Calls Try.prog 15 #[poolV pw pj pr, .slice A n c] w fun e w' => e = .returned (.tuple #[.pointer none, .int .i64 1, .int .i64 (-1)]) ∧ Below w.heap.size w w' := by
  unfold poolV
  have HB := Aside0.mk (below_alloc (Below.refl w.heap.size w) (.cells #[.int .i64 pw, .int .i64 pj, .int .i64 pr] 23))
  have HX := Aside0.mk (heap_alloc_new w (.cells #[.int .i64 pw, .int .i64 pj, .int .i64 pr] 23))
  by_cases h1 : 1 ≤ pw ∧ pw ≤ 8
  · have H1 := Aside0.mk h1
    by_cases h2 : 1 ≤ pj ∧ pj ≤ 8
    · have H2 := Aside0.mk h2
      have H3 := Aside0.mk (show ¬ (1 ≤ pr ∧ pr ≤ 8) from fun h3 => h ⟨h1, h2, h3⟩)
      clear h h1 h2
      go_enter Try.func15, Try.ntmps15
      go_wp2_with (first | (go_at_call 47; (with_reducible refine (within_true pw 1 8 _ H1.out).mono ?_); rintro e w2 ⟨rfl, hb⟩; have n1_ := Aside0.mk (HB.out.trans (hb.mono HB.out.size)); have n2_ := Aside0.mk ((hb.block _ (blk_lt HX.out)).trans HX.out); clear HB HX; have HB := n1_; have HX := n2_; clear n1_ n2_ hb; have k0 : w2.cell? ⟨w.heap.size, 0, none⟩ = some (.int .i64 pw) := (blk_cell HX.out 0).trans rfl; have k1 : w2.cell? ⟨w.heap.size, 1, none⟩ = some (.int .i64 pj) := (blk_cell HX.out 1).trans rfl; have k2 : w2.cell? ⟨w.heap.size, 2, none⟩ = some (.int .i64 pr) := (blk_cell HX.out 2).trans rfl) | (go_at_call 47; (with_reducible refine (within_true pj 1 8 _ H2.out).mono ?_); rintro e w2 ⟨rfl, hb⟩; have n1_ := Aside0.mk (HB.out.trans (hb.mono HB.out.size)); have n2_ := Aside0.mk ((hb.block _ (blk_lt HX.out)).trans HX.out); clear HB HX; have HB := n1_; have HX := n2_; clear n1_ n2_ hb; have k0 : w2.cell? ⟨w.heap.size, 0, none⟩ = some (.int .i64 pw) := (blk_cell HX.out 0).trans rfl; have k1 : w2.cell? ⟨w.heap.size, 1, none⟩ = some (.int .i64 pj) := (blk_cell HX.out 1).trans rfl; have k2 : w2.cell? ⟨w.heap.size, 2, none⟩ = some (.int .i64 pr) := (blk_cell HX.out 2).trans rfl) | (go_at_call 47; (with_reducible refine (within_false pr 1 8 _ H3.out).mono ?_); rintro e w2 ⟨rfl, hb⟩; have n1_ := Aside0.mk (HB.out.trans (hb.mono HB.out.size)); have n2_ := Aside0.mk ((hb.block _ (blk_lt HX.out)).trans HX.out); clear HB HX; have HB := n1_; have HX := n2_; clear n1_ n2_ hb; have k0 : w2.cell? ⟨w.heap.size, 0, none⟩ = some (.int .i64 pw) := (blk_cell HX.out 0).trans rfl; have k1 : w2.cell? ⟨w.heap.size, 1, none⟩ = some (.int .i64 pj) := (blk_cell HX.out 1).trans rfl; have k2 : w2.cell? ⟨w.heap.size, 2, none⟩ = some (.int .i64 pr) := (blk_cell HX.out 2).trans rfl))
      go_ret3
      exact ⟨rfl, HB.out⟩
    · have H2 := Aside0.mk h2
      clear h h1 h2
      go_enter Try.func15, Try.ntmps15
      go_wp2_with (first | (go_at_call 47; (with_reducible refine (within_true pw 1 8 _ H1.out).mono ?_); rintro e w2 ⟨rfl, hb⟩; have n1_ := Aside0.mk (HB.out.trans (hb.mono HB.out.size)); have n2_ := Aside0.mk ((hb.block _ (blk_lt HX.out)).trans HX.out); clear HB HX; have HB := n1_; have HX := n2_; clear n1_ n2_ hb; have k0 : w2.cell? ⟨w.heap.size, 0, none⟩ = some (.int .i64 pw) := (blk_cell HX.out 0).trans rfl; have k1 : w2.cell? ⟨w.heap.size, 1, none⟩ = some (.int .i64 pj) := (blk_cell HX.out 1).trans rfl; have k2 : w2.cell? ⟨w.heap.size, 2, none⟩ = some (.int .i64 pr) := (blk_cell HX.out 2).trans rfl) | (go_at_call 47; (with_reducible refine (within_false pj 1 8 _ H2.out).mono ?_); rintro e w2 ⟨rfl, hb⟩; have n1_ := Aside0.mk (HB.out.trans (hb.mono HB.out.size)); have n2_ := Aside0.mk ((hb.block _ (blk_lt HX.out)).trans HX.out); clear HB HX; have HB := n1_; have HX := n2_; clear n1_ n2_ hb; have k0 : w2.cell? ⟨w.heap.size, 0, none⟩ = some (.int .i64 pw) := (blk_cell HX.out 0).trans rfl; have k1 : w2.cell? ⟨w.heap.size, 1, none⟩ = some (.int .i64 pj) := (blk_cell HX.out 1).trans rfl; have k2 : w2.cell? ⟨w.heap.size, 2, none⟩ = some (.int .i64 pr) := (blk_cell HX.out 2).trans rfl))
      go_ret3
      exact ⟨rfl, HB.out⟩
  · have H1 := Aside0.mk h1
    clear h h1
    go_enter Try.func15, Try.ntmps15
    go_wp2_with (first | (go_at_call 47; (with_reducible refine (within_false pw 1 8 _ H1.out).mono ?_); rintro e w2 ⟨rfl, hb⟩; have n1_ := Aside0.mk (HB.out.trans (hb.mono HB.out.size)); have n2_ := Aside0.mk ((hb.block _ (blk_lt HX.out)).trans HX.out); clear HB HX; have HB := n1_; have HX := n2_; clear n1_ n2_ hb; have k0 : w2.cell? ⟨w.heap.size, 0, none⟩ = some (.int .i64 pw) := (blk_cell HX.out 0).trans rfl; have k1 : w2.cell? ⟨w.heap.size, 1, none⟩ = some (.int .i64 pj) := (blk_cell HX.out 1).trans rfl; have k2 : w2.cell? ⟨w.heap.size, 2, none⟩ = some (.int .i64 pr) := (blk_cell HX.out 2).trans rfl))
    go_ret3
    exact ⟨rfl, HB.out⟩
set_option maxHeartbeats 4000000 in
set_option maxRecDepth 1000000 in
theorem new_long (pw pj pr : Int) (A : Option Addr) (n c : Nat) (w : World) (hp : PoolOk pw pj pr) (hn : 1000 < n) : Calls Try.prog 15 #[poolV pw pj pr, .slice A n c] w fun e w' => e = .returned (.tuple #[.pointer none, .int .i64 2, .int .i64 (-1)]) ∧ Below w.heap.size w w' := by
  unfold poolV
  have HB := Aside0.mk (below_alloc (Below.refl w.heap.size w) (.cells #[.int .i64 pw, .int .i64 pj, .int .i64 pr] 23))
  have HX := Aside0.mk (heap_alloc_new w (.cells #[.int .i64 pw, .int .i64 pj, .int .i64 pr] 23))
  obtain ⟨h1, h2, h3⟩ := hp
  have H1 := Aside0.mk h1
  have H2 := Aside0.mk h2
  have H3 := Aside0.mk h3
  clear h1 h2 h3
  have p0 : decide ((1000 : Int) < (n : Int)) = true := decide_eq_true (by omega)
  go_enter Try.func15, Try.ntmps15
  go_wp2_with (first | (go_at_call 47; (with_reducible refine (within_true pw 1 8 _ H1.out).mono ?_); rintro e w2 ⟨rfl, hb⟩; have n1_ := Aside0.mk (HB.out.trans (hb.mono HB.out.size)); have n2_ := Aside0.mk ((hb.block _ (blk_lt HX.out)).trans HX.out); clear HB HX; have HB := n1_; have HX := n2_; clear n1_ n2_ hb; have k0 : w2.cell? ⟨w.heap.size, 0, none⟩ = some (.int .i64 pw) := (blk_cell HX.out 0).trans rfl; have k1 : w2.cell? ⟨w.heap.size, 1, none⟩ = some (.int .i64 pj) := (blk_cell HX.out 1).trans rfl; have k2 : w2.cell? ⟨w.heap.size, 2, none⟩ = some (.int .i64 pr) := (blk_cell HX.out 2).trans rfl) | (go_at_call 47; (with_reducible refine (within_true pj 1 8 _ H2.out).mono ?_); rintro e w2 ⟨rfl, hb⟩; have n1_ := Aside0.mk (HB.out.trans (hb.mono HB.out.size)); have n2_ := Aside0.mk ((hb.block _ (blk_lt HX.out)).trans HX.out); clear HB HX; have HB := n1_; have HX := n2_; clear n1_ n2_ hb; have k0 : w2.cell? ⟨w.heap.size, 0, none⟩ = some (.int .i64 pw) := (blk_cell HX.out 0).trans rfl; have k1 : w2.cell? ⟨w.heap.size, 1, none⟩ = some (.int .i64 pj) := (blk_cell HX.out 1).trans rfl; have k2 : w2.cell? ⟨w.heap.size, 2, none⟩ = some (.int .i64 pr) := (blk_cell HX.out 2).trans rfl) | (go_at_call 47; (with_reducible refine (within_true pr 1 8 _ H3.out).mono ?_); rintro e w2 ⟨rfl, hb⟩; have n1_ := Aside0.mk (HB.out.trans (hb.mono HB.out.size)); have n2_ := Aside0.mk ((hb.block _ (blk_lt HX.out)).trans HX.out); clear HB HX; have HB := n1_; have HX := n2_; clear n1_ n2_ hb; have k0 : w2.cell? ⟨w.heap.size, 0, none⟩ = some (.int .i64 pw) := (blk_cell HX.out 0).trans rfl; have k1 : w2.cell? ⟨w.heap.size, 1, none⟩ = some (.int .i64 pj) := (blk_cell HX.out 1).trans rfl; have k2 : w2.cell? ⟨w.heap.size, 2, none⟩ = some (.int .i64 pr) := (blk_cell HX.out 2).trans rfl))
  go_ret3
  exact ⟨rfl, HB.out⟩
abbrev JobOk (x : Int) : Prop := 0 ≤ x ∧ x ≤ 1000
theorem rd_take {xs : List Int} {k : Nat} (hk : k < xs.length) : rd xs k = xs[k] := by simp [rd, hk]
set_option maxHeartbeats 4000000 in
set_option maxRecDepth 1000000 in
theorem new_bad_job (pw pj pr : Int) (A : Option Addr) (c : Nat) (xs : List Int) (i : Nat) (w : World) (hp : PoolOk pw pj pr) (hC : Kd.C (Kd.int .i64) w A xs.length xs) (hn : xs.length ≤ 1000) (hi : i < xs.length) (hb : ¬ JobOk (rd xs i)) (ha : ∀ j : Nat, j < i → JobOk (rd xs j)) :
    Calls Try.prog 15 #[poolV pw pj pr, .slice A xs.length c] w fun e w' => e = .returned (.tuple #[.pointer none, .int .i64 1, .int .i64 i]) ∧ Below w.heap.size w w' := by
  unfold poolV
  have HB := Aside0.mk (below_alloc (Below.refl w.heap.size w) (.cells #[.int .i64 pw, .int .i64 pj, .int .i64 pr] 23))
  have HX := Aside0.mk (heap_alloc_new w (.cells #[.int .i64 pw, .int .i64 pj, .int .i64 pr] 23))
  obtain ⟨h1, h2, h3⟩ := hp
  have H1 := Aside0.mk h1
  have H2 := Aside0.mk h2
  have H3 := Aside0.mk h3
  clear h1 h2 h3
  have p0 : decide ((1000 : Int) < (xs.length : Int)) = false := decide_eq_false (by omega)
  have HC := Aside0.mk hC
  have HBAD := Aside0.mk hb
  have HOKJ := Aside0.mk ha
  clear hC hb ha
  go_enter Try.func15, Try.ntmps15
  go_wp2_with (first | (go_at_call 47; (with_reducible refine (within_true pw 1 8 _ H1.out).mono ?_); rintro e w2 ⟨rfl, hb⟩; have n1_ := Aside0.mk (HB.out.trans (hb.mono HB.out.size)); have n2_ := Aside0.mk ((hb.block _ (blk_lt HX.out)).trans HX.out); clear HB HX; have HB := n1_; have HX := n2_; clear n1_ n2_ hb; have k0 : w2.cell? ⟨w.heap.size, 0, none⟩ = some (.int .i64 pw) := (blk_cell HX.out 0).trans rfl; have k1 : w2.cell? ⟨w.heap.size, 1, none⟩ = some (.int .i64 pj) := (blk_cell HX.out 1).trans rfl; have k2 : w2.cell? ⟨w.heap.size, 2, none⟩ = some (.int .i64 pr) := (blk_cell HX.out 2).trans rfl) | (go_at_call 47; (with_reducible refine (within_true pj 1 8 _ H2.out).mono ?_); rintro e w2 ⟨rfl, hb⟩; have n1_ := Aside0.mk (HB.out.trans (hb.mono HB.out.size)); have n2_ := Aside0.mk ((hb.block _ (blk_lt HX.out)).trans HX.out); clear HB HX; have HB := n1_; have HX := n2_; clear n1_ n2_ hb; have k0 : w2.cell? ⟨w.heap.size, 0, none⟩ = some (.int .i64 pw) := (blk_cell HX.out 0).trans rfl; have k1 : w2.cell? ⟨w.heap.size, 1, none⟩ = some (.int .i64 pj) := (blk_cell HX.out 1).trans rfl; have k2 : w2.cell? ⟨w.heap.size, 2, none⟩ = some (.int .i64 pr) := (blk_cell HX.out 2).trans rfl) | (go_at_call 47; (with_reducible refine (within_true pr 1 8 _ H3.out).mono ?_); rintro e w2 ⟨rfl, hb⟩; have n1_ := Aside0.mk (HB.out.trans (hb.mono HB.out.size)); have n2_ := Aside0.mk ((hb.block _ (blk_lt HX.out)).trans HX.out); clear HB HX; have HB := n1_; have HX := n2_; clear n1_ n2_ hb; have k0 : w2.cell? ⟨w.heap.size, 0, none⟩ = some (.int .i64 pw) := (blk_cell HX.out 0).trans rfl; have k1 : w2.cell? ⟨w.heap.size, 1, none⟩ = some (.int .i64 pj) := (blk_cell HX.out 1).trans rfl; have k2 : w2.cell? ⟨w.heap.size, 2, none⟩ = some (.int .i64 pr) := (blk_cell HX.out 2).trans rfl))
  go_loopw [31] (fun t wr => ∃ k : Nat, t = .int .i64 k ∧ k ≤ i ∧ Below w.heap.size w wr ∧ wr.heap[w.heap.size]? = some (.cells #[.int .i64 pw, .int .i64 pj, .int .i64 pr] 23 (0, 0))) (fun t _ => xs.length - (intOf t).toNat)
  case atStart => exact ⟨0, rfl, Nat.zero_le _, HB.out, HX.out⟩
  case round =>
    obtain ⟨k, rfl, hk, hb, hx⟩ := hrel
    clear HB HX
    have HB := Aside0.mk hb
    have HX := Aside0.mk hx
    clear hb hx
    have q0 : decide ((k : Int) < (xs.length : Int)) = true := decide_eq_true (by omega)
    have q1 := eq_true (show (k : Int) < (xs.length : Int) by omega)
    obtain ⟨ad, ead, hy⟩ := Kd.at_int HC.out k (Int.natCast_nonneg _) (by omega)
    subst ead
    rw [Int.toNat_natCast] at hy
    replace hy := pw_cell_below HB.out hy
    by_cases hki : k = i
    · subst hki
      go_wp2_with (first | (go_at_call 47; (with_reducible refine (within_false (rd xs k) 0 1000 _ HBAD.out).mono ?_); rintro e w2 ⟨rfl, hb⟩; have n1_ := Aside0.mk (HB.out.trans (hb.mono HB.out.size)); have n2_ := Aside0.mk ((hb.block _ (blk_lt HX.out)).trans HX.out); clear HB HX; have HB := n1_; have HX := n2_; clear n1_ n2_ hb; have k0 : w2.cell? ⟨w.heap.size, 0, none⟩ = some (.int .i64 pw) := (blk_cell HX.out 0).trans rfl; have k1 : w2.cell? ⟨w.heap.size, 1, none⟩ = some (.int .i64 pj) := (blk_cell HX.out 1).trans rfl; have k2 : w2.cell? ⟨w.heap.size, 2, none⟩ = some (.int .i64 pr) := (blk_cell HX.out 2).trans rfl))
      go_ret3
      exact ⟨rfl, HB.out⟩
    · have HJ := Aside0.mk (HOKJ.out k (by omega))
      go_wp2_with (first | (go_at_call 47; (with_reducible refine (within_true (rd xs k) 0 1000 _ HJ.out).mono ?_); rintro e w2 ⟨rfl, hb⟩; have n1_ := Aside0.mk (HB.out.trans (hb.mono HB.out.size)); have n2_ := Aside0.mk ((hb.block _ (blk_lt HX.out)).trans HX.out); clear HB HX; have HB := n1_; have HX := n2_; clear n1_ n2_ hb; have k0 : w2.cell? ⟨w.heap.size, 0, none⟩ = some (.int .i64 pw) := (blk_cell HX.out 0).trans rfl; have k1 : w2.cell? ⟨w.heap.size, 1, none⟩ = some (.int .i64 pj) := (blk_cell HX.out 1).trans rfl; have k2 : w2.cell? ⟨w.heap.size, 2, none⟩ = some (.int .i64 pr) := (blk_cell HX.out 2).trans rfl))
      go_roundw
      case rel => exact ⟨k + 1, by go_num, by omega, HB.out, HX.out⟩
      case measure => simp [intOf]; omega
def newW (k : Nat) : List S99 := List.replicate k ⟨⟨1, 0, 0⟩⟩
def newM (pw pj pr : Int) (xs : List Int) (k : Nat) : Mach := ⟨pw, pj, pr, xs, 0, false, true, true, newW k, [], [], 0, [], false, 0, 0, 0⟩
theorem newM_ok (pw pj pr : Int) (xs : List Int) (hp : PoolOk pw pj pr) (hn : xs.length ≤ 1000) (hj : ∀ j ∈ xs, 0 ≤ j ∧ j ≤ 1000) : Ok (newM pw pj pr xs pw.toNat) := by
  obtain ⟨h1, h2, h3⟩ := hp
  refine ⟨h1, h2, h3, hn, hj, ⟨Int.le_refl _, by simp [newM]⟩, ?_, ?_, ?_, ?_, ?_, ?_, ?_, ?_, ?_⟩
  · simp only [newM, newW, List.length_replicate]; omega
  · intro x hx
    have := List.eq_of_mem_replicate hx
    subst this
    simp
  · simp only [newM, List.length_nil]; omega
  · simp [newM]
  · simp only [newM, List.length_nil]; omega
  · simp [newM]
  · simp [newM]
  · simp [newM, newW]
  · simp [newM]
/-- Whatever is the machine's is new. -/
def Fresh (w : World) (g : Nat) (s : Sh) : Prop := ∀ k, Foot g s k ∨ some k = s.J.ownBlock → w.heap.size ≤ k
theorem ap_nil (a : Value) : Ap a (.slice none 0 0) := fun k _ hk => by simp [Value.ownBlock] at hk
theorem own_nil {α : Type} (d : Kd α) (e : Nat) (w : World) : Own d e w (.slice none 0 0) [] := Kd.R_nil _ _ _ _ _
theorem newM_is (pw pj pr : Int) (xs : List Int) (W : World) (J : Value) (hJ : Own (Kd.int .i64) 3 W J xs) (g : Nat) (hg : W.heap[g]? = some (.cells (cellsM ⟨J, .slice none 0 0, .slice none 0 0, .slice none 0 0, .slice none 0 0⟩ (newM pw pj pr xs 0)) 97 (0, 0))) : IsM W g ⟨J, .slice none 0 0, .slice none 0 0, .slice none 0 0, .slice none 0 0⟩ (newM pw pj pr xs 0) :=
  ⟨hg, hJ, own_nil _ _ _, own_nil _ _ _, own_nil _ _ _, own_nil _ _ _, ap_nil _, ap_nil _, ap_nil _, ap_nil _, ap_nil _, ap_nil _⟩
theorem newW_succ (k : Nat) : newW k ++ [(⟨⟨1, 0, 0⟩⟩ : S99)] = newW (k + 1) := by simp [newW, List.replicate_succ']
theorem new_app {pw pj pr : Int} {xs : List Int} {w W w2 : World} {g k : Nat} {J v v1 : Value} (HI : IsM W g ⟨J, v, .slice none 0 0, .slice none 0 0, .slice none 0 0⟩ (newM pw pj pr xs k)) (ho : Kd.R k99 99 w2 w.heap.size (fun _ => True) v1 (newW k ++ [(⟨⟨1, 0, 0⟩⟩ : S99)])) (hb : Below w.heap.size w w2) (hgr : W.grownBy w2 v.ownBlock) (hg : w.heap.size ≤ g) :
    (∃ A1 c1, v1 = .slice A1 (k + 1) c1) ∧ IsM (w2.setCell ⟨g, 8, none⟩ v1) g ⟨J, v1, .slice none 0 0, .slice none 0 0, .slice none 0 0⟩ (newM pw pj pr xs (k + 1)) ∧ Kd.R k99 99 (w2.setCell ⟨g, 8, none⟩ v1) w.heap.size (fun k => some k = v1.ownBlock) v1 (newW (k + 1)) ∧ Below w.heap.size w (w2.setCell ⟨g, 8, none⟩ v1) ∧ w2.cell? ⟨g, 8, none⟩ = some v ∧ w2.frozen? ⟨g, 8, none⟩ = false := by
  rw [newW_succ] at ho
  have hpb := blk_grown HI.blk hgr (fun e => ne_typed HI.works HI.blk (by decide) g e rfl)
  obtain ⟨A1, c1, hv⟩ := Kd.R_slice ho
  have hl : (newW (k + 1)).length = k + 1 := by simp [newW]
  rw [hl] at hv
  have hO : Own k99 99 w2 v1 (newW (k + 1)) := Own.of rfl ho
  refine ⟨⟨A1, c1, hv⟩, IsM.putW HI (fun k hk hne => hgr.block k hk hne) hO, ?_, hb.setCell (p := ⟨g, 8, none⟩) hg v1, (blk_cell hpb 8).trans rfl, blk_frozen hpb 8⟩
  exact Kd.R_step (Kd.R_tight rfl ho) (fun k hk _ => Below.heap_setCell w2 ⟨g, 8, none⟩ v1 k (fun e => ne_typed hO hpb (by decide) k hk e))
set_option maxHeartbeats 8000000 in
set_option maxRecDepth 1000000 in
theorem new_ok (pw pj pr : Int) (A : Option Addr) (c : Nat) (xs : List Int) (w : World) (hp : PoolOk pw pj pr) (hC : Kd.C (Kd.int .i64) w A xs.length xs) (hn : xs.length ≤ 1000) (ha : ∀ j : Nat, j < xs.length → JobOk (rd xs j)) :
    Calls Try.prog 15 #[poolV pw pj pr, .slice A xs.length c] w fun e w' => ∃ g s, e = .returned (.tuple #[ptr g, .int .i64 0, .int .i64 0]) ∧ IsM w' g s (newM pw pj pr xs pw.toNat) ∧ Below w.heap.size w w' ∧ Fresh w g s := by
  unfold poolV
  have HB := Aside0.mk (below_alloc (Below.refl w.heap.size w) (.cells #[.int .i64 pw, .int .i64 pj, .int .i64 pr] 23))
  have HX := Aside0.mk (heap_alloc_new w (.cells #[.int .i64 pw, .int .i64 pj, .int .i64 pr] 23))
  obtain ⟨h1, h2, h3⟩ := hp
  have H1 := Aside0.mk h1
  have H2 := Aside0.mk h2
  have H3 := Aside0.mk h3
  clear h1 h2 h3
  have p0 : decide ((1000 : Int) < (xs.length : Int)) = false := decide_eq_false (by omega)
  have HLEN := Aside0.mk (show xs.length * 8 ≤ 140737488355328 by omega)
  have HC := Aside0.mk hC
  have HOKJ := Aside0.mk ha
  clear hC ha
  go_enter Try.func15, Try.ntmps15
  go_wp2_with (first | (go_at_call 47; (with_reducible refine (within_true pw 1 8 _ H1.out).mono ?_); rintro e w2 ⟨rfl, hb⟩; have n1_ := Aside0.mk (HB.out.trans (hb.mono HB.out.size)); have n2_ := Aside0.mk ((hb.block _ (blk_lt HX.out)).trans HX.out); clear HB HX; have HB := n1_; have HX := n2_; clear n1_ n2_ hb; have k0 : w2.cell? ⟨w.heap.size, 0, none⟩ = some (.int .i64 pw) := (blk_cell HX.out 0).trans rfl; have k1 : w2.cell? ⟨w.heap.size, 1, none⟩ = some (.int .i64 pj) := (blk_cell HX.out 1).trans rfl; have k2 : w2.cell? ⟨w.heap.size, 2, none⟩ = some (.int .i64 pr) := (blk_cell HX.out 2).trans rfl) | (go_at_call 47; (with_reducible refine (within_true pj 1 8 _ H2.out).mono ?_); rintro e w2 ⟨rfl, hb⟩; have n1_ := Aside0.mk (HB.out.trans (hb.mono HB.out.size)); have n2_ := Aside0.mk ((hb.block _ (blk_lt HX.out)).trans HX.out); clear HB HX; have HB := n1_; have HX := n2_; clear n1_ n2_ hb; have k0 : w2.cell? ⟨w.heap.size, 0, none⟩ = some (.int .i64 pw) := (blk_cell HX.out 0).trans rfl; have k1 : w2.cell? ⟨w.heap.size, 1, none⟩ = some (.int .i64 pj) := (blk_cell HX.out 1).trans rfl; have k2 : w2.cell? ⟨w.heap.size, 2, none⟩ = some (.int .i64 pr) := (blk_cell HX.out 2).trans rfl) | (go_at_call 47; (with_reducible refine (within_true pr 1 8 _ H3.out).mono ?_); rintro e w2 ⟨rfl, hb⟩; have n1_ := Aside0.mk (HB.out.trans (hb.mono HB.out.size)); have n2_ := Aside0.mk ((hb.block _ (blk_lt HX.out)).trans HX.out); clear HB HX; have HB := n1_; have HX := n2_; clear n1_ n2_ hb; have k0 : w2.cell? ⟨w.heap.size, 0, none⟩ = some (.int .i64 pw) := (blk_cell HX.out 0).trans rfl; have k1 : w2.cell? ⟨w.heap.size, 1, none⟩ = some (.int .i64 pj) := (blk_cell HX.out 1).trans rfl; have k2 : w2.cell? ⟨w.heap.size, 2, none⟩ = some (.int .i64 pr) := (blk_cell HX.out 2).trans rfl))
  go_loopw [31] (fun t wr => ∃ k : Nat, t = .int .i64 k ∧ k ≤ xs.length ∧ Below w.heap.size w wr ∧ wr.heap[w.heap.size]? = some (.cells #[.int .i64 pw, .int .i64 pj, .int .i64 pr] 23 (0, 0))) (fun t _ => xs.length - (intOf t).toNat)
  case atStart => exact ⟨0, rfl, Nat.zero_le _, HB.out, HX.out⟩
  case round =>
    obtain ⟨k, rfl, hk, hb, hx⟩ := hrel
    clear HB HX
    have HB := Aside0.mk hb
    have HX := Aside0.mk hx
    clear hb hx
    by_cases hlt : k < xs.length
    · have q0 : decide ((k : Int) < (xs.length : Int)) = true := decide_eq_true (by omega)
      have q1 := eq_true (show (k : Int) < (xs.length : Int) by omega)
      obtain ⟨ad, ead, hy⟩ := Kd.at_int HC.out k (Int.natCast_nonneg _) (by omega)
      subst ead
      rw [Int.toNat_natCast] at hy
      replace hy := pw_cell_below HB.out hy
      have HJ := Aside0.mk (HOKJ.out k hlt)
      go_wp2_with (first | (go_at_call 47; (with_reducible refine (within_true (rd xs k) 0 1000 _ HJ.out).mono ?_); rintro e w2 ⟨rfl, hb⟩; have n1_ := Aside0.mk (HB.out.trans (hb.mono HB.out.size)); have n2_ := Aside0.mk ((hb.block _ (blk_lt HX.out)).trans HX.out); clear HB HX; have HB := n1_; have HX := n2_; clear n1_ n2_ hb; have k0 : w2.cell? ⟨w.heap.size, 0, none⟩ = some (.int .i64 pw) := (blk_cell HX.out 0).trans rfl; have k1 : w2.cell? ⟨w.heap.size, 1, none⟩ = some (.int .i64 pj) := (blk_cell HX.out 1).trans rfl; have k2 : w2.cell? ⟨w.heap.size, 2, none⟩ = some (.int .i64 pr) := (blk_cell HX.out 2).trans rfl))
      go_roundw
      case rel => exact ⟨k + 1, by go_num, by omega, HB.out, HX.out⟩
      case measure => simp [intOf]; omega
    · have q0 : decide ((k : Int) < (xs.length : Int)) = false := decide_eq_false (by omega)
      go_wp2
      have HBW := Aside0.mk (below_drew HB.out)
      have HX' := Aside0.mk (show wr.drew.heap[w.heap.size]? = _ from HX.out)
      clear HX HB
      have HX := HX'
      clear HX'
      refine start_ (n := 6) (S := fun w' => w'.heap[w.heap.size]? = some (.cells #[.int .i64 pw, .int .i64 pj, .int .i64 pr] 23 (0, 0))) (ds := []) #[false, false, false, false, false, false] (by kernel_rfl) rfl rfl HX.out (fun hHeld => ?_)
      generalize wr.drew = W at HBW HX hHeld ⊢
      refine take_ (i := 0) (N := (some 41)) (v := ?_) (a' := ?_) #[true, false, false, false, false, false] rfl rfl (by kernel_rfl) (fun _ _ _ h => h) (Or.inl ⟨by rfl, ?_⟩) hHeld ?_ ?_
      rotate_left
      · rintro w' s0
        have t0 : w'.cell? ⟨w.heap.size, 0, none⟩ = some (.int .i64 pw) := (blk_cell s0 0).trans rfl
        have t1 : w'.cell? ⟨w.heap.size, 1, none⟩ = some (.int .i64 pj) := (blk_cell s0 1).trans rfl
        have t2 : w'.cell? ⟨w.heap.size, 2, none⟩ = some (.int .i64 pr) := (blk_cell s0 2).trans rfl
        go_simp
        with_reducible rfl
      rotate_left
      · simp only [Act.put, List.setIfInBounds_toArray, List.set_cons_zero, List.set_cons_succ, i64_w, i32_w]
        rfl
      refine pure_ (i := 1) (N := (some 42)) (v := ?_) (a' := ?_) #[true, true, false, false, false, false] rfl rfl (by kernel_rfl) (fun _ _ _ h => h) (Or.inl ⟨by rfl, ?_⟩) ?_ ?_
      rotate_left
      · intro w'
        go_simp
        with_reducible rfl
      rotate_left
      · simp only [Act.put, List.setIfInBounds_toArray, List.set_cons_zero, List.set_cons_succ, i64_w, i32_w]
        rfl
      refine one_ (i := 2) (N := (some 43)) #[true, true, true, false, false, false] rfl rfl (by kernel_rfl) (by decide) (fun K hK => ?_)
      refine goes_ Try.func48 (by kernel_rfl) rfl #[.slice A xs.length c] (by rfl) rfl rfl (by simp only [List.map_toArray, List.map_cons, List.map_nil]; rfl) ?_
      refine (clone_int A c xs _ (Kd.C_below HC.out HBW.out) HLEN.out).mono ?_
      rintro e w1 ⟨vJ, rfl, ho, hb⟩
      refine ⟨_, rfl, ?_⟩
      obtain ⟨AJ, cJ, hv⟩ := Kd.R_slice ho
      subst hv
      have HJ := Aside0.mk (Kd.R_lower ho HBW.out.size)
      have HB1 := Aside0.mk (HBW.out.trans (hb.mono HBW.out.size))
      have HX1 := Aside0.mk ((hb.block _ (blk_lt HX.out)).trans HX.out)
      clear ho hb
      refine hK.out _ _ HX1.out (fun hHeld => ?_)
      clear hK K
      refine norm_ (a' := ?_) ?_ ?_
      rotate_left
      · show Act.put _ (some 43) _ = _
        simp only [Act.put, List.setIfInBounds_toArray, List.set_cons_zero, List.set_cons_succ, i64_w, i32_w]
        rfl
      refine pure_ (i := 3) (N := (some 44)) (v := ?_) (a' := ?_) #[true, true, true, true, false, false] rfl rfl (by kernel_rfl) (fun _ _ _ h => h) (Or.inl ⟨by rfl, ?_⟩) ?_ ?_
      rotate_left
      · intro w'
        go_simp
        with_reducible rfl
      rotate_left
      · simp only [Act.put, List.setIfInBounds_toArray, List.set_cons_zero, List.set_cons_succ, i64_w, i32_w]
        rfl
      refine one_ (i := 4) (N := (some 45)) #[true, true, true, true, true, false] rfl rfl (by kernel_rfl) (by decide) (fun K hK => ?_)
      refine value_ (w1 := ?_) (v := ?_) (by rfl) rfl ?_ ?_
      rotate_left 2
      · go_simp
        constructor
        · rfl
        · rfl
      refine hK.out _ _ (blk_alloc HX1.out _) (fun hHeld => ?_)
      clear hK K
      refine norm_ (a' := ?_) ?_ ?_
      rotate_left
      · show Act.put _ (some 45) _ = _
        simp only [Act.put, List.setIfInBounds_toArray, List.set_cons_zero, List.set_cons_succ, i64_w, i32_w]
        rfl
      refine pure_ (i := 5) (N := (some 9)) (v := ?_) (a' := ?_) #[true, true, true, true, true, true] rfl rfl (by kernel_rfl) (fun _ _ _ h => h) (Or.inl ⟨by rfl, ?_⟩) ?_ ?_
      rotate_left
      · intro w'
        go_simp
        with_reducible rfl
      rotate_left
      · simp only [Act.put, List.setIfInBounds_toArray, List.set_cons_zero, List.set_cons_succ, i64_w, i32_w]
        rfl
      refine done_ (by kernel_rfl) ?_
      have HNI := Aside0.mk (newM_is pw pj pr xs (w1.alloc (.cells #[.int .i64 pw, .int .i64 pj, .int .i64 pr, .slice AJ xs.length cJ, .int .i64 0, .bool false, .bool true, .bool true, .slice none 0 0, .slice none 0 0, .slice none 0 0, .int .i64 0, .slice none 0 0, .bool false, .int .i64 0, .int .i64 0, .int .i64 0] 97)) (.slice AJ xs.length cJ) (Own.of rfl (Kd.R_alloc HJ.out _)) w1.heap.size (heap_alloc_new w1 _))
      have HBN := Aside0.mk (below_alloc HB1.out (.cells #[.int .i64 pw, .int .i64 pj, .int .i64 pr, .slice AJ xs.length cJ, .int .i64 0, .bool false, .bool true, .bool true, .slice none 0 0, .slice none 0 0, .slice none 0 0, .int .i64 0, .slice none 0 0, .bool false, .int .i64 0, .int .i64 0, .int .i64 0] 97))
      have HXN := Aside0.mk (blk_alloc HX1.out (.cells #[.int .i64 pw, .int .i64 pj, .int .i64 pr, .slice AJ xs.length cJ, .int .i64 0, .bool false, .bool true, .bool true, .slice none 0 0, .slice none 0 0, .slice none 0 0, .int .i64 0, .slice none 0 0, .bool false, .int .i64 0, .int .i64 0, .int .i64 0] 97))
      have HJB := Aside0.mk (fun k (hk : some k = (Value.slice AJ xs.length cJ).ownBlock) => Kd.R_base HJ.out k hk.symm)
      obtain ⟨g, hg⟩ : ∃ g, w1.heap.size = g := ⟨_, rfl⟩
      have HG := Aside0.mk (show w.heap.size ≤ g from by rw [← hg]; exact HB1.out.size)
      rw [hg] at HNI
      generalize (w1.alloc (.cells #[.int .i64 pw, .int .i64 pj, .int .i64 pr, .slice AJ xs.length cJ, .int .i64 0, .bool false, .bool true, .bool true, .slice none 0 0, .slice none 0 0, .slice none 0 0, .int .i64 0, .slice none 0 0, .bool false, .int .i64 0, .int .i64 0, .int .i64 0] 97)) = W2 at HNI HBN HXN ⊢
      rw [hg]
      clear hg hHeld HJ HB1 HX1
      have z0 : W2.cell? ⟨w.heap.size, 0, none⟩ = some (.int .i64 pw) := (blk_cell HXN.out 0).trans rfl
      go_wp2
      have hpw := H1.out
      go_loopw [48] (fun t wr => ∃ (k : Nat) (v : Value), t = .int .i64 k ∧ k ≤ pw.toNat ∧ IsM wr g ⟨.slice AJ xs.length cJ, v, .slice none 0 0, .slice none 0 0, .slice none 0 0⟩ (newM pw pj pr xs k) ∧ Kd.R k99 99 wr w.heap.size (fun k => some k = v.ownBlock) v (newW k) ∧ Below w.heap.size w wr) (fun t _ => pw.toNat - (intOf t).toNat)
      case atStart => exact ⟨0, _, rfl, Nat.zero_le _, HNI.out, Kd.R_nil _ _ _ _ _, HBN.out⟩
      case round =>
        obtain ⟨k, v, rfl, hk, hi, ho, hb⟩ := hrel
        have HI := Aside0.mk hi
        have HO := Aside0.mk (Kd.R_mono (ok' := fun _ => True) ho (fun _ _ => trivial))
        have HB := Aside0.mk hb
        have HBASE := Aside0.mk (fun k (hk : some k = v.ownBlock) => Kd.R_base ho k hk.symm)
        obtain ⟨AW, cW, hv⟩ := Kd.R_slice ho
        clear hi ho hb
        subst hv
        have y8 : wr.cell? ⟨g, 8, none⟩ = some (.slice AW (newW k).length cW) := (blk_cell HI.out.blk 8).trans rfl
        by_cases hlt : k < pw.toNat
        · have q0 : decide ((k : Int) < pw) = true := decide_eq_true (by omega)
          go_wp2_with (first | ((with_reducible refine gate_builtin (b := .append) (xs := #[.tmp 54, .tmp 57]) rfl ?_); at_builtin; refine Kd.R_append k99 (w0 := w) w.heap.size rfl (.tmp 54) (.tmp 57) 95 99 (.agg #[.int .i64 0, .int .i64 0, .int .i64 0]) 24 rfl Try.underlying95 info99 rfl (by decide) (by omega) _ _ (⟨⟨1, 0, 0⟩⟩ : S99) [.int .i64 1, .int .i64 0, .int .i64 0] (fun _ => True) (fun _ => False) rfl rfl ?aP (fun _ hk => hk.elim) ?aF HO.out HB.out ?aS ?aL ?_; (case aP => exact k99_mkM _ _ _ (⟨⟨1, 0, 0⟩⟩ : S99)); (case aF => exact (fun _ _ => trivial)); (case aS => exact HB.out.size); (case aL => have := H1.out; simp only [newW, List.length_replicate]; omega); intro v1 w2 ho hb hgr hat; obtain ⟨⟨A1, c1, hv⟩, oi, oo, ob, q8, r8⟩ := new_app HI.out ho hb hgr HG.out; have OI := Aside0.mk oi; have OO := Aside0.mk oo; have OB := Aside0.mk ob; clear oi oo ob ho hb hgr hat; subst hv))
          go_roundw
          case rel => exact ⟨k + 1, _, by go_num, by omega, OI.out, OO.out, OB.out⟩
          case measure => simp [intOf]; omega
        · have q0 : decide ((k : Int) < pw) = false := decide_eq_false (by omega)
          have hkp : k = pw.toNat := by omega
          subst hkp
          go_wp2
          go_ret3
          refine ⟨g, _, rfl, HI.out, HB.out, ?_⟩
          rintro k ((hk | hk | hk | hk | hk) | hk)
          · rw [hk]; exact HG.out
          · exact HBASE.out k hk
          · simp [Value.ownBlock] at hk
          · simp [Value.ownBlock] at hk
          · simp [Value.ownBlock] at hk
          · exact HJB.out k hk
end Go.Proofs.Ythcchpbidbbiaaa.Sc
namespace Go.Proofs.Ythcchpbidbbiaaa.Sc
open Go.RowKit Go.Proofs.YthcchpbidbbiaaaW.PrintWords Go.Proofs.YthcchpbidbbiaaaW.PrintLast Go.Proofs.YthcchpbidbbiaaaW.PrintMore Go.Proofs.Ythcchpbidbbiaaa.PSchedSide
set_option linter.unusedVariables false
set_option linter.unusedSimpArgs false
/-- A move that is ready, by its kind: the event, the machine behind it. -/
inductive Kind (m : Mach) (x : S64) : Evt → Mach → Prop
  | close (h0 : x.f0 = 0) (h1 : x.f1 = 0) (hd : m.disp = true) (hu : und m = 0) : Kind m x ⟨3, 0, -1, 0⟩ { m with disp := false, picks := m.picks + 1 }
  | drop (h0 : x.f0 = 0) (h1 : x.f1 = 1) (hs : m.stopped = true) (hd : m.disp = true) (hu : und m ≠ 0) : Kind m x ⟨2, 0, -1, 0⟩ { m with dropped := true, picks := m.picks + 1 }
  | send (h0 : x.f0 = 0) (h1 : x.f1 = 0) (hd : m.disp = true) (hu : und m ≠ 0) (hl : (m.sent.length : Int) < m.pj) : Kind m x ⟨1, 0, m.next, 0⟩ { m with sent := m.sent ++ [m.next], next := m.next + 1, picks := m.picks + 1 }
  | cancel (h0 : x.f0 = m.workers.length + 1) (h1 : x.f1 = 1) (hs : m.stopped = true) (hc : m.coll = true) : Kind m x ⟨11, x.f0, -1, 0⟩ { m with coll := false, outcome := 2, picks := m.picks + 1 }
  | full (h0 : x.f0 = m.workers.length + 1) (h1 : x.f1 = 0) (hc : m.coll = true) (hg : m.got.length = m.jobs.length) : Kind m x ⟨10, x.f0, -1, 0⟩ { m with coll := false, outcome := 1, picks := m.picks + 1 }
  | got (q : Int) (rest : List Int) (h0 : x.f0 = m.workers.length + 1) (h1 : x.f1 = 0) (hc : m.coll = true) (hg : m.got.length ≠ m.jobs.length) (hv : m.given = q :: rest) : Kind m x ⟨9, x.f0, q, 0⟩ { m with given := rest, got := m.got ++ [q], picks := m.picks + 1 }
  | quit (a b : List S99) (y : S59) (hw : m.workers = a ++ ⟨y⟩ :: b) (h0 : x.f0 = a.length + 1) (h1 : x.f1 = 1) (hs : m.stopped = true) (hk : y.f0 ≠ 0) : Kind m x ⟨8, x.f0, jobOf y, 0⟩ { m with workers := a ++ ⟨⟨0, 0, 0⟩⟩ :: b, picks := m.picks + 1 }
  | step (a b : List S99) (k1 k2 : Int) (hw : m.workers = a ++ ⟨⟨2, k1, k2⟩⟩ :: b) (h0 : x.f0 = a.length + 1) (h1 : x.f1 = 0) (hk : 0 < k2) : Kind m x ⟨5, x.f0, k1, rd m.jobs k1 - (k2 - 1) - 1⟩ { m with workers := a ++ ⟨⟨2, k1, k2 - 1⟩⟩ :: b, picks := m.picks + 1 }
  | gave (a b : List S99) (k1 : Int) (hw : m.workers = a ++ ⟨⟨2, k1, 0⟩⟩ :: b) (h0 : x.f0 = a.length + 1) (h1 : x.f1 = 0) (hl : (m.given.length : Int) < m.pr) : Kind m x ⟨6, x.f0, k1, 0⟩ { m with given := m.given ++ [k1], judged := m.judged + 1, workers := a ++ ⟨⟨1, 0, 0⟩⟩ :: b, picks := m.picks + 1 }
  | left (a b : List S99) (hw : m.workers = a ++ ⟨⟨1, 0, 0⟩⟩ :: b) (h0 : x.f0 = a.length + 1) (h1 : x.f1 = 0) (hs : m.sent = []) (hd : m.disp = false) : Kind m x ⟨7, x.f0, -1, 0⟩ { m with workers := a ++ ⟨⟨0, 0, 0⟩⟩ :: b, picks := m.picks + 1 }
  | took (a b : List S99) (q : Int) (rest : List Int) (hw : m.workers = a ++ ⟨⟨1, 0, 0⟩⟩ :: b) (h0 : x.f0 = a.length + 1) (h1 : x.f1 = 0) (hq : m.sent = q :: rest) : Kind m x ⟨4, x.f0, q, 0⟩ { m with sent := rest, workers := a ++ ⟨⟨2, q, rd m.jobs q⟩⟩ :: b, peak := max m.peak (working (a ++ ⟨⟨2, q, rd m.jobs q⟩⟩ :: b)), picks := m.picks + 1 }
theorem split_at {xs : List S99} {p : Int} (h0 : 1 ≤ p) (h1 : p ≤ xs.length) : ∃ a b, xs = a ++ ⟨(rd_T99 xs (p - 1)).f0⟩ :: b ∧ p = a.length + 1 ∧ ∀ y, xs.set (p - 1).toNat ⟨y⟩ = a ++ ⟨y⟩ :: b := by
  have hlt : (p - 1).toNat < xs.length := by omega
  refine ⟨xs.take (p - 1).toNat, xs.drop ((p - 1).toNat + 1), ?_, ?_, fun y => ?_⟩
  · unfold rd_T99
    rw [List.getD_eq_getElem?_getD, List.getElem?_eq_getElem hlt]
    show xs = List.take (p - 1).toNat xs ++ xs[(p - 1).toNat] :: List.drop ((p - 1).toNat + 1) xs
    rw [List.getElem_cons_drop, List.take_append_drop]
  · rw [List.length_take]; omega
  · rw [List.set_eq_take_append_cons_drop, if_pos hlt]
theorem kind_of_mem {m : Mach} {x : S64} (hO : Ok m) (hx : x ∈ mvs m) : Kind m x (evOf m x) (step m x) := by
  obtain ⟨h0, h1, hr⟩ := mem_mvs.1 hx
  obtain ⟨p, c⟩ := x
  simp only [] at h0 h1 hr
  by_cases hp0 : p = 0
  · subst hp0
    have hrd : ∀ b, rdy m 0 b = readyD m b := fun b => by simp [rdy]
    rw [hrd, hrd] at hr
    unfold readyD at hr
    rcases hr with ⟨rfl, hr⟩ | ⟨rfl, hs, hr⟩
    · simp only [Bool.and_eq_true] at hr
      obtain ⟨hd, hr⟩ := hr
      by_cases hu : und m = 0
      · have := Kind.close (m := m) (x := ⟨0, 0⟩) rfl rfl hd hu
        simpa [evOf, step, act, hu] using this
      · rw [if_neg hu] at hr
        have hl : (m.sent.length : Int) < m.pj := by simpa using hr
        have := Kind.send (m := m) (x := ⟨0, 0⟩) rfl rfl hd hu hl
        simpa [evOf, step, act, hu] using this
    · simp only [Bool.and_eq_true] at hr
      obtain ⟨hd, hr⟩ := hr
      by_cases hu : und m = 0
      · rw [if_pos hu] at hr; simp at hr
      · have := Kind.drop (m := m) (x := ⟨0, 1⟩) rfl rfl hs hd hu
        simpa [evOf, step, act, hu] using this
  · by_cases hpn : p = m.workers.length + 1
    · have hrd : ∀ b, rdy m p b = readyC m b := fun b => by simp only [rdy]; rw [if_neg hp0, if_pos hpn]
      rw [hrd, hrd] at hr
      unfold readyC at hr
      rcases hr with ⟨rfl, hr⟩ | ⟨rfl, hs, hr⟩
      · simp only [Bool.and_eq_true] at hr
        obtain ⟨hc, hr⟩ := hr
        by_cases hg : m.got.length = m.jobs.length
        · have := Kind.full (m := m) (x := ⟨p, 0⟩) hpn rfl hc hg
          simp only [evOf, step, act]
          rw [if_neg hp0, if_pos hpn, if_neg (by decide), if_pos hg]
          exact this
        · have hgv : 0 < m.given.length := by simpa [hg] using hr
          obtain ⟨q, rest, hq⟩ : ∃ q rest, m.given = q :: rest := by
            cases h : m.given with
            | nil => rw [h] at hgv; simp at hgv
            | cons q rest => exact ⟨q, rest, rfl⟩
          have := Kind.got (m := m) (x := ⟨p, 0⟩) q rest hpn rfl hc hg hq
          simp only [evOf, step, act]
          rw [if_neg hp0, if_pos hpn, if_neg (by decide), if_neg hg, hq]
          exact this
      · simp only [Bool.and_eq_true] at hr
        have := Kind.cancel (m := m) (x := ⟨p, 1⟩) hpn rfl hs hr.1
        simp only [evOf, step, act]
        rw [if_neg hp0, if_pos hpn, if_pos (by decide)]
        exact this
    · have hrd : ∀ b, rdy m p b = readyW m p b := fun b => by simp only [rdy]; rw [if_neg hp0, if_neg hpn]
      rw [hrd, hrd] at hr
      unfold readyW at hr
      have hwr := wk_range hO (p := p) (by omega) (by omega)
      obtain ⟨a, b, hab, hpa, hset⟩ := split_at (xs := m.workers) (p := p) (by omega) (by omega)
      have hab' : m.workers = a ++ ⟨wk m p⟩ :: b := hab
      obtain ⟨y, hy⟩ : ∃ y, wk m p = y := ⟨_, rfl⟩
      rw [hy] at hwr hr hab'
      obtain ⟨k0, k1, k2⟩ := y
      simp only [] at hwr hr
      rcases hr with ⟨rfl, hr⟩ | ⟨rfl, hs, hr⟩
      · rcases hwr with ⟨rfl, h2, h3, h4, h5⟩ | ⟨rfl | rfl, rfl, rfl⟩
        · by_cases hz : 0 < k2
          · have := Kind.step (m := m) (x := ⟨p, 0⟩) a b k1 k2 hab' hpa rfl hz
            simp only [evOf, step, act, hy, setW]
            rw [if_neg hp0, if_neg hpn, if_neg (by decide), if_pos trivial, if_pos hz, hset]
            exact this
          · have hk2 : k2 = 0 := by omega
            subst hk2
            have hl : (m.given.length : Int) < m.pr := by simpa using hr
            have := Kind.gave (m := m) (x := ⟨p, 0⟩) a b k1 hab' hpa rfl hl
            simp only [evOf, step, act, hy, setW]
            rw [if_neg hp0, if_neg hpn, if_neg (by decide), if_pos trivial, if_neg hz, hset]
            exact this
        · simp at hr
        · by_cases hz : m.sent.length = 0
          · have hd : m.disp = false := by simpa [hz] using hr
            have := Kind.left (m := m) (x := ⟨p, 0⟩) a b hab' hpa rfl (List.eq_nil_of_length_eq_zero hz) hd
            simp only [evOf, step, act, hy, setW]
            rw [if_neg hp0, if_neg hpn, if_neg (by decide), if_neg (by decide), if_pos hz, hset]
            exact this
          · obtain ⟨q, rest, hq⟩ : ∃ q rest, m.sent = q :: rest := by
              cases h : m.sent with
              | nil => rw [h] at hz; simp at hz
              | cons q rest => exact ⟨q, rest, rfl⟩
            have := Kind.took (m := m) (x := ⟨p, 0⟩) a b q rest hab' hpa rfl hq
            simp only [evOf, step, act, hy, tookM]
            rw [if_neg hp0, if_neg hpn, if_neg (by decide), if_neg (by decide), if_neg hz, hset, hq]
            exact this
      · have hk : k0 ≠ 0 := fun e => by rw [if_pos e] at hr; simp at hr
        have := Kind.quit (m := m) (x := ⟨p, 1⟩) a b _ hab' hpa rfl hs hk
        simp only [evOf, step, act, hy, setW]
        rw [if_neg hp0, if_neg hpn, if_pos (by decide), hset]
        exact this
end Go.Proofs.Ythcchpbidbbiaaa.Sc
namespace Go.Proofs.Ythcchpbidbbiaaa.Sc
open Go.RowKit Go.Proofs.YthcchpbidbbiaaaW.PrintWords Go.Proofs.YthcchpbidbbiaaaW.PrintLast Go.Proofs.YthcchpbidbbiaaaW.PrintMore Go.Proofs.Ythcchpbidbbiaaa.PSchedSide
set_option linter.unusedVariables false
set_option linter.unusedSimpArgs false
theorem mem_mid {a b : List S99} {y z : S99} (h : z ∈ a ++ y :: b) : z = y ∨ z ∈ a ∨ z ∈ b := by
  simp only [List.mem_append, List.mem_cons] at h
  rcases h with h | h | h <;> simp [h]
theorem rd_mem {xs : List Int} {j : Int} (h0 : 0 ≤ j) (h1 : j < xs.length) : rd xs j ∈ xs := by
  have h2 : j.toNat < xs.length := by omega
  unfold rd
  rw [List.getD_eq_getElem?_getD, List.getElem?_eq_getElem h2]
  exact List.getElem_mem h2
theorem und_pos {m : Mach} (hO : Ok m) (hu : und m ≠ 0) : m.dropped = false ∧ m.next < m.jobs.length := by
  have := hO.nx
  unfold und at hu
  split at hu
  · simp at hu
  · rename_i h
    exact ⟨by simpa using h, by omega⟩
/-- The jobs that are worked on. -/
def jobsW (ws : List S99) : List Int := (ws.filter (fun x => x.f0.f0 = 2)).map (fun x => x.f0.f1)
theorem jobsW_mid (a b : List S99) (y : S59) : jobsW (a ++ ⟨y⟩ :: b) = jobsW a ++ (if y.f0 = 2 then [y.f1] else []) ++ jobsW b := by
  unfold jobsW
  rw [List.filter_append, List.map_append, List.filter_cons]
  split <;> rename_i h <;> simp at h <;> simp [h]
theorem working_eq (ws : List S99) : working ws = (jobsW ws).length := by simp [working, jobsW]
theorem working_mid (a b : List S99) (y : S59) : working (a ++ ⟨y⟩ :: b) = working a + (if y.f0 = 2 then 1 else 0) + working b := by
  rw [working_eq, jobsW_mid, working_eq, working_eq]
  split <;> simp <;> omega
theorem working_le (ws : List S99) : 0 ≤ working ws ∧ working ws ≤ ws.length := by
  unfold working
  have := List.length_filter_le (fun x : S99 => decide (x.f0.f0 = 2)) ws
  omega
theorem ct_of {m : Mach} (hO : Ok m) : (m.sent.length : Int) + working m.workers + m.judged ≤ m.next := hO.ct
theorem kind_ok {m m' : Mach} {x : S64} {e : Evt} (hO : Ok m) (hk : Kind m x e m') : Ok m' := by
  have hct := ct_of hO
  cases hk with
  | close h0 h1 hd hu => exact { hO with }
  | drop h0 h1 hs hd hu => exact { hO with }
  | send h0 h1 hd hu hl =>
    obtain ⟨hdr, hnx⟩ := und_pos hO hu
    have hn := hO.nx
    exact { hO with
      nx := by simp only []; omega
      ns := by simp only [List.length_append, List.length_cons, List.length_nil]; omega
      ss := by
        intro j hj
        rcases List.mem_append.1 hj with h | h
        · exact hO.ss j h
        · have : j = m.next := by simpa using h
          subst this
          exact ⟨hn.1, hnx⟩
      ct := by have := hO.ct; simp only [List.length_append, List.length_cons, List.length_nil]; omega }
  | cancel h0 h1 hs hc => exact { hO with }
  | full h0 h1 hc hg => exact { hO with }
  | got q rest h0 h1 hc hg hv =>
    have hng := hO.ng
    have hjd := hO.jd
    rw [hv] at hng hjd
    simp only [List.length_cons] at hng hjd
    exact { hO with
      ng := by simp only []; omega
      gs := fun j hj => hO.gs j (by rw [hv]; exact List.mem_cons_of_mem _ hj)
      jd := by simp only [List.length_append, List.length_cons, List.length_nil]; omega }
  | quit a b y hw h0 h1 hs hk =>
    have hws := hO.ws
    have hwo := working_le a
    have hnw := hO.nw
    rw [hw, working_mid] at hct
    rw [hw] at hws hnw
    exact { hO with
      nw := by simpa using hnw
      ws := by
        intro z hz
        rcases mem_mid hz with rfl | hz | hz
        · exact .inr ⟨.inl rfl, rfl, rfl⟩
        · exact hws z (List.mem_append_left _ hz)
        · exact hws z (List.mem_append_right _ (List.mem_cons_of_mem _ hz))
      ct := by
        show (m.sent.length : Int) + working (a ++ ⟨⟨0, 0, 0⟩⟩ :: b) + m.judged ≤ m.next
        rw [working_mid]
        simp only []
        split at hct <;> simp <;> omega }
  | step a b k1 k2 hw h0 h1 hk =>
    have hws := hO.ws
    have hnw := hO.nw
    rw [hw, working_mid] at hct
    rw [hw] at hws hnw
    exact { hO with
      nw := by simpa using hnw
      ws := by
        intro z hz
        rcases mem_mid hz with rfl | hz | hz
        · have h := hws ⟨⟨2, k1, k2⟩⟩ (by simp)
          simp only [] at h ⊢
          left
          rcases h with h | h
          · exact ⟨trivial, h.2.1, h.2.2.1, by omega, by omega⟩
          · exact absurd h.1 (by decide)
        · exact hws z (List.mem_append_left _ hz)
        · exact hws z (List.mem_append_right _ (List.mem_cons_of_mem _ hz))
      ct := by
        show (m.sent.length : Int) + working (a ++ ⟨⟨2, k1, k2 - 1⟩⟩ :: b) + m.judged ≤ m.next
        rw [working_mid]
        exact hct }
  | gave a b k1 hw h0 h1 hl =>
    have hws := hO.ws
    have hnw := hO.nw
    have hjd := hO.jd
    have hpr := hO.pr
    rw [hw, working_mid] at hct
    rw [hw] at hws hnw
    exact { hO with
      nw := by simpa using hnw
      ws := by
        intro z hz
        rcases mem_mid hz with rfl | hz | hz
        · exact .inr ⟨.inr rfl, rfl, rfl⟩
        · exact hws z (List.mem_append_left _ hz)
        · exact hws z (List.mem_append_right _ (List.mem_cons_of_mem _ hz))
      ng := by simp only [List.length_append, List.length_cons, List.length_nil]; omega
      gs := by
        intro j hj
        rcases List.mem_append.1 hj with h | h
        · exact hO.gs j h
        · have hj1 : j = k1 := by simpa using h
          subst hj1
          have h := hws ⟨⟨2, j, 0⟩⟩ (by simp)
          rcases h with h | h
          · exact ⟨h.2.1, h.2.2.1⟩
          · exact absurd h.1 (by simp)
      jd := by simp only [List.length_append, List.length_cons, List.length_nil]; omega
      ct := by
        show (m.sent.length : Int) + working (a ++ ⟨⟨1, 0, 0⟩⟩ :: b) + (m.judged + 1) ≤ m.next
        rw [working_mid]
        simp at hct ⊢
        omega }
  | left a b hw h0 h1 hs hd =>
    have hws := hO.ws
    have hnw := hO.nw
    rw [hw, working_mid] at hct
    rw [hw] at hws hnw
    exact { hO with
      nw := by simpa using hnw
      ws := by
        intro z hz
        rcases mem_mid hz with rfl | hz | hz
        · exact .inr ⟨.inl rfl, rfl, rfl⟩
        · exact hws z (List.mem_append_left _ hz)
        · exact hws z (List.mem_append_right _ (List.mem_cons_of_mem _ hz))
      ct := by
        show (m.sent.length : Int) + working (a ++ ⟨⟨0, 0, 0⟩⟩ :: b) + m.judged ≤ m.next
        rw [working_mid]
        simp at hct ⊢
        omega }
  | took a b q rest hw h0 h1 hq =>
    have hws := hO.ws
    have hnw := hO.nw
    have hns := hO.ns
    have hss := hO.ss q (by rw [hq]; simp)
    have hjs := hO.js _ (rd_mem hss.1 hss.2)
    have hpk := hO.pk
    have hpw := hO.pw
    rw [hw, working_mid, hq] at hct
    rw [hw] at hws hnw
    rw [hq] at hns
    simp only [List.length_cons] at hns hct
    have hwl := working_le (a ++ ⟨⟨2, q, rd m.jobs q⟩⟩ :: b)
    have hlen : ((a ++ (⟨⟨2, q, rd m.jobs q⟩⟩ : S99) :: b).length : Int) = m.pw := by simpa using hnw
    exact { hO with
      nw := hlen
      ws := by
        intro z hz
        rcases mem_mid hz with rfl | hz | hz
        · exact .inl ⟨rfl, hss.1, hss.2, hjs.1, hjs.2⟩
        · exact hws z (List.mem_append_left _ hz)
        · exact hws z (List.mem_append_right _ (List.mem_cons_of_mem _ hz))
      ns := by simp only []; omega
      ss := fun j hj => hO.ss j (by rw [hq]; exact List.mem_cons_of_mem _ hj)
      ct := by
        show (rest.length : Int) + working (a ++ ⟨⟨2, q, rd m.jobs q⟩⟩ :: b) + m.judged ≤ m.next
        rw [working_mid]
        simp at hct ⊢
        omega
      pk := by simp only []; omega }
end Go.Proofs.Ythcchpbidbbiaaa.Sc
namespace Go.Proofs.Ythcchpbidbbiaaa.Sc
open Go.RowKit Go.Proofs.YthcchpbidbbiaaaW.PrintWords Go.Proofs.YthcchpbidbbiaaaW.PrintLast Go.Proofs.YthcchpbidbbiaaaW.PrintMore Go.Proofs.Ythcchpbidbbiaaa.PSchedSide
set_option linter.unusedVariables false
set_option linter.unusedSimpArgs false
def wrem (x : S99) : Int := if x.f0.f0 = 0 then 0 else if x.f0.f0 = 2 then x.f0.f2 + 3 else 1
def sumW (ws : List S99) : Int := (ws.map wrem).sum
def sumS (js xs : List Int) : Int := (xs.map (fun j => 3 + rd js j)).sum
def restS (m : Mach) : Int := if m.dropped then 0 else ((m.jobs.drop m.next.toNat).map (fun j => 4 + j)).sum
/-- The moves that are left, if it is not cancelled. -/
def rem (m : Mach) : Int := (if m.disp then 1 else 0) + (if m.coll then 1 else 0) + restS m + sumS m.jobs m.sent + m.given.length + sumW m.workers
theorem sumW_mid (a b : List S99) (y : S59) : sumW (a ++ ⟨y⟩ :: b) = sumW a + wrem ⟨y⟩ + sumW b := by
  simp only [sumW, List.map_append, List.map_cons, List.sum_append, List.sum_cons]; omega
theorem restS_und {m : Mach} (hO : Ok m) (hu : und m ≠ 0) : restS m = 4 + rd m.jobs m.next + ((m.jobs.drop (m.next + 1).toNat).map (fun j => 4 + j)).sum := by
  obtain ⟨hd, hn⟩ := und_pos hO hu
  have h0 := hO.nx
  have hlt : m.next.toNat < m.jobs.length := by omega
  unfold restS
  rw [hd, if_neg (by simp)]
  have e : m.jobs.drop m.next.toNat = rd m.jobs m.next :: m.jobs.drop (m.next + 1).toNat := by
    rw [List.drop_eq_getElem_cons hlt]
    have e1 : (m.next + 1).toNat = m.next.toNat + 1 := by omega
    rw [e1]
    simp [rd, hlt]
  rw [e, List.map_cons, List.sum_cons]
theorem sum4_nonneg {xs : List Int} (h : ∀ j ∈ xs, 0 ≤ j ∧ j ≤ 1000) : 0 ≤ (xs.map (fun j => 4 + j)).sum := by
  induction xs with
  | nil => simp
  | cons x xs ih =>
    have h1 := ih (fun j hj => h j (List.mem_cons_of_mem _ hj))
    have h2 := h x List.mem_cons_self
    simp only [List.map_cons, List.sum_cons]
    omega
theorem restS_nonneg {m : Mach} (hO : Ok m) : 0 ≤ restS m := by
  unfold restS
  split
  · exact Int.le_refl _
  · exact sum4_nonneg (fun j hj => hO.js j (List.mem_of_mem_drop hj))
theorem rd_job {m : Mach} (hO : Ok m) {j : Int} (h0 : 0 ≤ j) (h1 : j < m.jobs.length) : 0 ≤ rd m.jobs j ∧ rd m.jobs j ≤ 1000 := hO.js _ (rd_mem h0 h1)
theorem kind_rem {m m' : Mach} {x : S64} {e : Evt} (hO : Ok m) (hk : Kind m x e m') : rem m' ≤ rem m - 1 ∧ (x.f1 = 0 → rem m' = rem m - 1) := by
  cases hk with
  | close h0 h1 hd hu =>
    simp only [rem, hd, restS, if_true, Bool.false_eq_true, if_false]
    constructor <;> (try intro _) <;> omega
  | drop h0 h1 hs hd hu =>
    have h2 := restS_und hO hu
    have h3 := rd_job hO (und_pos hO hu |>.2 |> fun _ => hO.nx.1) (und_pos hO hu).2
    have h4 := sum4_nonneg (xs := m.jobs.drop (m.next + 1).toNat) (fun j hj => hO.js j (List.mem_of_mem_drop hj))
    refine ⟨?_, fun h => by rw [h1] at h; exact absurd h (by decide)⟩
    have h5 : restS { m with dropped := true, picks := m.picks + 1 } = 0 := by simp [restS]
    simp only [rem, h5]
    omega
  | send h0 h1 hd hu hl =>
    have h2 := restS_und hO hu
    have h6 := (und_pos hO hu).1
    have h5 : restS { m with sent := m.sent ++ [m.next], next := m.next + 1, picks := m.picks + 1 } = ((m.jobs.drop (m.next + 1).toNat).map (fun j => 4 + j)).sum := by simp [restS, h6]
    have h7 : sumS m.jobs (m.sent ++ [m.next]) = sumS m.jobs m.sent + (3 + rd m.jobs m.next) := by simp [sumS]
    simp only [rem, h5, h7]
    constructor
    · omega
    · intro _; omega
  | cancel h0 h1 hs hc =>
    simp only [rem, hc, restS, if_true, Bool.false_eq_true, if_false]
    constructor <;> (try intro _) <;> omega
  | full h0 h1 hc hg =>
    simp only [rem, hc, restS, if_true, Bool.false_eq_true, if_false]
    constructor <;> (try intro _) <;> omega
  | got q rest h0 h1 hc hg hv => simp only [rem, hv, restS, List.length_cons]; constructor <;> (try intro _) <;> omega
  | quit a b y hw h0 h1 hs hk =>
    have hws := hO.ws
    rw [hw] at hws
    have hy := hws ⟨y⟩ (by simp)
    refine ⟨?_, fun h => by rw [h1] at h; exact absurd h (by decide)⟩
    have h2 : 1 ≤ wrem ⟨y⟩ := by
      unfold wrem
      rw [if_neg hk]
      simp only [] at hy ⊢
      split <;> omega
    simp only [rem, hw, sumW_mid, restS]
    have h3 : wrem ⟨⟨0, 0, 0⟩⟩ = 0 := rfl
    rw [h3]
    omega
  | step a b k1 k2 hw h0 h1 hk =>
    have h3 : wrem ⟨⟨2, k1, k2⟩⟩ = k2 + 3 := rfl
    have h4 : wrem ⟨⟨2, k1, k2 - 1⟩⟩ = k2 - 1 + 3 := rfl
    simp only [rem, hw, sumW_mid, restS, h3, h4]
    constructor <;> (try intro _) <;> omega
  | gave a b k1 hw h0 h1 hl =>
    have h3 : wrem ⟨⟨2, k1, 0⟩⟩ = 3 := rfl
    have h4 : wrem ⟨⟨1, 0, 0⟩⟩ = 1 := rfl
    simp only [rem, hw, sumW_mid, restS, h3, h4, List.length_append, List.length_cons, List.length_nil]
    constructor <;> (try intro _) <;> omega
  | left a b hw h0 h1 hs hd =>
    have h3 : wrem ⟨⟨0, 0, 0⟩⟩ = 0 := rfl
    have h4 : wrem ⟨⟨1, 0, 0⟩⟩ = 1 := rfl
    simp only [rem, hw, sumW_mid, restS, h3, h4]
    constructor <;> (try intro _) <;> omega
  | took a b q rest hw h0 h1 hq =>
    have h3 : wrem ⟨⟨2, q, rd m.jobs q⟩⟩ = rd m.jobs q + 3 := rfl
    have h4 : wrem ⟨⟨1, 0, 0⟩⟩ = 1 := rfl
    have h5 : sumS m.jobs (q :: rest) = 3 + rd m.jobs q + sumS m.jobs rest := by simp [sumS]
    simp only [rem, hw, hq, sumW_mid, restS, h3, h4, h5]
    constructor <;> (try intro _) <;> omega
theorem sumW_nonneg {ws : List S99} (h : ∀ x ∈ ws, 0 ≤ wrem x) : 0 ≤ sumW ws := by
  induction ws with
  | nil => simp [sumW]
  | cons x ws ih =>
    have h1 := ih (fun y hy => h y (List.mem_cons_of_mem _ hy))
    have h2 := h x List.mem_cons_self
    simp only [sumW, List.map_cons, List.sum_cons] at h1 ⊢
    omega
theorem sumS_nonneg {js xs : List Int} (h : ∀ j ∈ xs, 0 ≤ rd js j) : 0 ≤ sumS js xs := by
  induction xs with
  | nil => simp [sumS]
  | cons x xs ih =>
    have h1 := ih (fun y hy => h y (List.mem_cons_of_mem _ hy))
    have h2 := h x List.mem_cons_self
    simp only [sumS, List.map_cons, List.sum_cons] at h1 ⊢
    omega
theorem wrem_nonneg {m : Mach} (hO : Ok m) : ∀ x ∈ m.workers, 0 ≤ wrem x := by
  intro x hx
  have h := hO.ws x hx
  unfold wrem
  split
  · exact Int.le_refl _
  · split <;> omega
theorem parts_nonneg {m : Mach} (hO : Ok m) : 0 ≤ restS m ∧ 0 ≤ sumS m.jobs m.sent ∧ 0 ≤ sumW m.workers :=
  ⟨restS_nonneg hO, sumS_nonneg (fun j hj => (rd_job hO (hO.ss j hj).1 (hO.ss j hj).2).1), sumW_nonneg (wrem_nonneg hO)⟩
theorem rem_nonneg {m : Mach} (hO : Ok m) : 0 ≤ rem m := by
  have h := parts_nonneg hO
  unfold rem
  split <;> split <;> omega
/-- A machine is not done: something is left. -/
theorem rem_pos {m : Mach} (hO : Ok m) (hd : doneOf m = false) : 1 ≤ rem m := by
  have h := parts_nonneg hO
  unfold rem
  unfold doneOf at hd
  by_cases h1 : m.disp = true
  · rw [h1]; simp only [if_true]; split <;> omega
  · by_cases h2 : m.coll = true
    · rw [h2]; simp only [if_true]; split <;> omega
    · have h3 : anyUp m.workers = true := by simpa [h1, h2] using hd
      unfold anyUp at h3
      rw [List.any_eq_true] at h3
      obtain ⟨x, hx, hne⟩ := h3
      obtain ⟨a, b, hab⟩ := List.append_of_mem hx
      have hwn := wrem_nonneg hO
      rw [hab] at hwn
      have ha := sumW_nonneg (ws := a) (fun y hy => hwn y (by simp [hy]))
      have hb := sumW_nonneg (ws := b) (fun y hy => hwn y (by simp [hy]))
      have hx2 := hO.ws x hx
      have hwx : 1 ≤ wrem x := by
        have : x.f0.f0 ≠ 0 := by simpa using hne
        unfold wrem
        rw [if_neg this]
        split <;> omega
      have hsm : sumW m.workers = sumW a + wrem x + sumW b := by
        rw [hab]
        exact sumW_mid a b x.f0
      rw [hsm, if_neg h1, if_neg h2]
      omega
/-- All jobs that are somewhere between sent and got. -/
def alls (m : Mach) : List Int := m.sent ++ (jobsW m.workers ++ (m.given ++ m.got))
structure Inv (m : Mach) : Prop where
  ok : Ok m
  pk0 : 0 ≤ m.picks
  pot : m.picks + rem m ≤ boundOf m
  out : (m.coll = true ∧ m.outcome = 0) ∨ (m.coll = false ∧ ((m.outcome = 1 ∧ m.got.length = m.jobs.length) ∨ (m.outcome = 2 ∧ m.stopped = true)))
  dis : m.disp = false → und m = 0
  run : m.stopped = false → m.dropped = false ∧ (m.sent.length : Int) + working m.workers + m.judged = m.next ∧ m.picks + rem m = boundOf m
  low : m.stopped = false → (∃ x ∈ m.workers, x.f0.f0 = 0) → m.disp = false ∧ m.sent = []
  nod : (alls m).Nodup
  lt : ∀ j ∈ alls m, j < m.next
  pkn : m.peak ≤ m.jobs.length ∧ m.peak ≤ m.pw ∧ working m.workers ≤ m.peak
  wl : ∀ x ∈ m.workers, x.f0.f0 = 2 → x.f0.f2 ≤ rd m.jobs x.f0.f1
  gn : ∀ j ∈ m.got, 0 ≤ j
theorem alls_length (m : Mach) : ((alls m).length : Int) = m.sent.length + working m.workers + m.given.length + m.got.length := by
  unfold alls
  rw [working_eq]
  simp only [List.length_append]
  omega
theorem bound_same {m m' : Mach} (h1 : m'.jobs = m.jobs) (h2 : m'.workers.length = m.workers.length) : boundOf m' = boundOf m := by unfold boundOf; rw [h1, h2]
theorem kind_bound {m m' : Mach} {x : S64} {e : Evt} (hk : Kind m x e m') : boundOf m' = boundOf m ∧ m'.jobs = m.jobs ∧ m'.stopped = m.stopped ∧ m'.picks = m.picks + 1 ∧ m'.pw = m.pw ∧ m'.pj = m.pj ∧ m'.pr = m.pr ∧ m'.workers.length = m.workers.length := by
  cases hk with
  | quit a b y hw h0 h1 hs hk => exact ⟨bound_same rfl (by rw [hw]; simp), rfl, rfl, rfl, rfl, rfl, rfl, by rw [hw]; simp⟩
  | step a b k1 k2 hw h0 h1 hk => exact ⟨bound_same rfl (by rw [hw]; simp), rfl, rfl, rfl, rfl, rfl, rfl, by rw [hw]; simp⟩
  | gave a b k1 hw h0 h1 hl => exact ⟨bound_same rfl (by rw [hw]; simp), rfl, rfl, rfl, rfl, rfl, rfl, by rw [hw]; simp⟩
  | left a b hw h0 h1 hs hd => exact ⟨bound_same rfl (by rw [hw]; simp), rfl, rfl, rfl, rfl, rfl, rfl, by rw [hw]; simp⟩
  | took a b q rest hw h0 h1 hq => exact ⟨bound_same rfl (by rw [hw]; simp), rfl, rfl, rfl, rfl, rfl, rfl, by rw [hw]; simp⟩
  | _ => exact ⟨bound_same rfl rfl, rfl, rfl, rfl, rfl, rfl, rfl, rfl⟩
theorem kind_go {m m' : Mach} {x : S64} {e : Evt} (hk : Kind m x e m') (hs : m.stopped = false) : x.f1 = 0 := by
  cases hk with
  | drop h0 h1 hs' hd hu => rw [hs] at hs'; simp at hs'
  | cancel h0 h1 hs' hc => rw [hs] at hs'; simp at hs'
  | quit a b y hw h0 h1 hs' hk => rw [hs] at hs'; simp at hs'
  | close h0 h1 hd hu => exact h1
  | send h0 h1 hd hu hl => exact h1
  | full h0 h1 hc hg => exact h1
  | got q rest h0 h1 hc hg hv => exact h1
  | step a b k1 k2 hw h0 h1 hk => exact h1
  | gave a b k1 hw h0 h1 hl => exact h1
  | left a b hw h0 h1 hs hd => exact h1
  | took a b q rest hw h0 h1 hq => exact h1
theorem inv_alls {m m' : Mach} {x : S64} {e : Evt} (hI : Inv m) (hk : Kind m x e m') : (alls m').Nodup ∧ (∀ j ∈ alls m', j < m'.next) := by
  have hn := hI.nod
  have hl := hI.lt
  unfold alls at hn hl ⊢
  cases hk with
  | close h0 h1 hd hu => exact ⟨hn, hl⟩
  | drop h0 h1 hs hd hu => exact ⟨hn, hl⟩
  | cancel h0 h1 hs hc => exact ⟨hn, hl⟩
  | full h0 h1 hc hg => exact ⟨hn, hl⟩
  | send h0 h1 hd hu hl' =>
    have hp : List.Perm (m.sent ++ [m.next] ++ (jobsW m.workers ++ (m.given ++ m.got))) (m.next :: (m.sent ++ (jobsW m.workers ++ (m.given ++ m.got)))) := by
      rw [List.append_assoc]
      exact List.perm_middle
    refine ⟨hp.nodup_iff.2 (List.nodup_cons.2 ⟨fun h => ?_, hn⟩), fun j hj => ?_⟩
    · have := hl _ h; omega
    · rcases List.mem_cons.1 (hp.mem_iff.1 hj) with e | h
      · rw [e]; show m.next < m.next + 1; omega
      · have := hl j h; show j < m.next + 1; omega
  | got q rest h0 h1 hc hg hv =>
    rw [hv] at hn hl
    have hp : List.Perm (m.sent ++ (jobsW m.workers ++ (rest ++ (m.got ++ [q])))) (m.sent ++ (jobsW m.workers ++ (q :: rest ++ m.got))) := by
      refine List.Perm.append_left _ (List.Perm.append_left _ ?_)
      rw [← List.append_assoc]
      exact List.perm_append_comm
    exact ⟨hp.nodup_iff.2 hn, fun j hj => hl j (hp.mem_iff.1 hj)⟩
  | quit a b y hw h0 h1 hs hk =>
    rw [hw, jobsW_mid] at hn hl
    rw [jobsW_mid]
    have hsub : List.Sublist (m.sent ++ (jobsW a ++ (if (⟨0, 0, 0⟩ : S59).f0 = 2 then [(⟨0, 0, 0⟩ : S59).f1] else []) ++ jobsW b ++ (m.given ++ m.got))) (m.sent ++ (jobsW a ++ (if y.f0 = 2 then [y.f1] else []) ++ jobsW b ++ (m.given ++ m.got))) := by
      refine List.Sublist.append_left (List.Sublist.append_right (List.Sublist.append_right (List.Sublist.append_left ?_ _) _) _) _
      simp
    exact ⟨hsub.nodup hn, fun j hj => hl j (hsub.subset hj)⟩
  | step a b k1 k2 hw h0 h1 hk =>
    rw [hw, jobsW_mid] at hn hl
    rw [jobsW_mid]
    exact ⟨hn, hl⟩
  | gave a b k1 hw h0 h1 hl' =>
    rw [hw, jobsW_mid] at hn hl
    rw [jobsW_mid]
    have hp : List.Perm (m.sent ++ (jobsW a ++ (if (⟨1, 0, 0⟩ : S59).f0 = 2 then [(⟨1, 0, 0⟩ : S59).f1] else []) ++ jobsW b ++ (m.given ++ [k1] ++ m.got))) (m.sent ++ (jobsW a ++ (if (⟨2, k1, 0⟩ : S59).f0 = 2 then [(⟨2, k1, 0⟩ : S59).f1] else []) ++ jobsW b ++ (m.given ++ m.got))) := by
      refine List.Perm.append_left _ ?_
      simp only [if_true, show ¬ ((1 : Int) = 2) from by decide, if_false, List.append_nil, List.append_assoc]
      refine List.Perm.append_left _ ?_
      have h2 : List.Perm (m.given ++ ([k1] ++ m.got)) ([k1] ++ (m.given ++ m.got)) := List.perm_middle
      refine (List.Perm.append_left _ h2).trans ?_
      exact List.perm_middle
    exact ⟨hp.nodup_iff.2 hn, fun j hj => hl j (hp.mem_iff.1 hj)⟩
  | left a b hw h0 h1 hs hd =>
    rw [hw, jobsW_mid] at hn hl
    rw [jobsW_mid]
    exact ⟨hn, hl⟩
  | took a b q rest hw h0 h1 hq =>
    rw [hw, jobsW_mid, hq] at hn hl
    rw [jobsW_mid]
    have hp : List.Perm (rest ++ (jobsW a ++ (if (⟨2, q, rd m.jobs q⟩ : S59).f0 = 2 then [(⟨2, q, rd m.jobs q⟩ : S59).f1] else []) ++ jobsW b ++ (m.given ++ m.got))) (q :: rest ++ (jobsW a ++ (if (⟨1, 0, 0⟩ : S59).f0 = 2 then [(⟨1, 0, 0⟩ : S59).f1] else []) ++ jobsW b ++ (m.given ++ m.got))) := by
      simp only [if_true, show ¬ ((1 : Int) = 2) from by decide, if_false, List.append_nil, List.append_assoc, List.cons_append]
      rw [← List.append_assoc rest]
      refine List.perm_middle.trans ?_
      rw [List.append_assoc]
      exact List.Perm.refl _
    exact ⟨hp.nodup_iff.2 hn, fun j hj => hl j (hp.mem_iff.1 hj)⟩
theorem inv_pkn {m m' : Mach} {x : S64} {e : Evt} (hI : Inv m) (hk : Kind m x e m') : m'.peak ≤ m'.jobs.length ∧ m'.peak ≤ m'.pw ∧ working m'.workers ≤ m'.peak := by
  obtain ⟨h1, h2, h3⟩ := hI.pkn
  have hO' := kind_ok hI.ok hk
  have hc := ct_of hO'
  have hx := hO'.nx
  have hj := hO'.jd
  have hwk := working_le m'.workers
  have hnw := hO'.nw
  have hb := kind_bound hk
  cases hk with
  | quit a b y hw h0 h1' hs hk =>
    refine ⟨h1, h2, ?_⟩
    rw [hw, working_mid] at h3
    show working (a ++ ⟨⟨0, 0, 0⟩⟩ :: b) ≤ m.peak
    rw [working_mid]
    simp only [] at h3 ⊢
    split at h3 <;> simp <;> omega
  | step a b k1 k2 hw h0 h1' hk =>
    refine ⟨h1, h2, ?_⟩
    rw [hw, working_mid] at h3
    show working (a ++ ⟨⟨2, k1, k2 - 1⟩⟩ :: b) ≤ m.peak
    rw [working_mid]
    exact h3
  | gave a b k1 hw h0 h1' hl =>
    refine ⟨h1, h2, ?_⟩
    rw [hw, working_mid] at h3
    show working (a ++ ⟨⟨1, 0, 0⟩⟩ :: b) ≤ m.peak
    rw [working_mid]
    simp at h3 ⊢
    omega
  | left a b hw h0 h1' hs hd =>
    refine ⟨h1, h2, ?_⟩
    rw [hw, working_mid] at h3
    show working (a ++ ⟨⟨0, 0, 0⟩⟩ :: b) ≤ m.peak
    rw [working_mid]
    simp at h3 ⊢
    omega
  | took a b q rest hw' h0 h1' hq =>
    simp only [] at hc hx hj hwk hnw hb ⊢
    have hg : (0 : Int) ≤ (m.given.length : Int) + m.got.length := by omega
    refine ⟨?_, ?_, ?_⟩ <;> omega
  | _ => exact ⟨h1, h2, h3⟩
theorem inv_wl {m m' : Mach} {x : S64} {e : Evt} (hI : Inv m) (hk : Kind m x e m') : ∀ y ∈ m'.workers, y.f0.f0 = 2 → y.f0.f2 ≤ rd m'.jobs y.f0.f1 := by
  have hwl := hI.wl
  cases hk with
  | quit a b y hw h0 h1' hs hk =>
    rw [hw] at hwl
    intro z hz h2
    rcases mem_mid hz with rfl | hz | hz
    · simp at h2
    · exact hwl z (by simp [hz]) h2
    · exact hwl z (by simp [hz]) h2
  | step a b k1 k2 hw h0 h1' hk =>
    rw [hw] at hwl
    intro z hz h2
    rcases mem_mid hz with rfl | hz | hz
    · have := hwl ⟨⟨2, k1, k2⟩⟩ (by simp) rfl
      simp only [] at this ⊢
      omega
    · exact hwl z (by simp [hz]) h2
    · exact hwl z (by simp [hz]) h2
  | gave a b k1 hw h0 h1' hl =>
    rw [hw] at hwl
    intro z hz h2
    rcases mem_mid hz with rfl | hz | hz
    · simp at h2
    · exact hwl z (by simp [hz]) h2
    · exact hwl z (by simp [hz]) h2
  | left a b hw h0 h1' hs hd =>
    rw [hw] at hwl
    intro z hz h2
    rcases mem_mid hz with rfl | hz | hz
    · simp at h2
    · exact hwl z (by simp [hz]) h2
    · exact hwl z (by simp [hz]) h2
  | took a b q rest hw h0 h1' hq =>
    rw [hw] at hwl
    intro z hz h2
    rcases mem_mid hz with rfl | hz | hz
    · exact Int.le_refl _
    · exact hwl z (by simp [hz]) h2
    · exact hwl z (by simp [hz]) h2
  | _ => exact hwl
theorem und_eq {m : Mach} (h : m.dropped = false) : und m = m.jobs.length - m.next := by simp [und, h]
theorem inv_out {m m' : Mach} {x : S64} {e : Evt} (hI : Inv m) (hk : Kind m x e m') : ((m'.coll = true ∧ m'.outcome = 0) ∨ (m'.coll = false ∧ ((m'.outcome = 1 ∧ m'.got.length = m'.jobs.length) ∨ (m'.outcome = 2 ∧ m'.stopped = true)))) ∧ (m'.disp = false → und m' = 0) := by
  have ho := hI.out
  have hd' := hI.dis
  cases hk with
  | close h0 h1 hd hu => exact ⟨ho, fun _ => hu⟩
  | drop h0 h1 hs hd hu => exact ⟨ho, fun h => by simp only [] at h; rw [hd] at h; simp at h⟩
  | send h0 h1 hd hu hl => exact ⟨ho, fun h => by simp only [] at h; rw [hd] at h; simp at h⟩
  | cancel h0 h1 hs hc => exact ⟨.inr ⟨rfl, .inr ⟨rfl, hs⟩⟩, hd'⟩
  | full h0 h1 hc hg => exact ⟨.inr ⟨rfl, .inl ⟨rfl, hg⟩⟩, hd'⟩
  | got q rest h0 h1 hc hg hv =>
    refine ⟨.inl ⟨hc, ?_⟩, hd'⟩
    rcases ho with h | h
    · exact h.2
    · rw [hc] at h; simp at h
  | _ => exact ⟨ho, hd'⟩
theorem inv_low {m m' : Mach} {x : S64} {e : Evt} (hI : Inv m) (hk : Kind m x e m') : m'.stopped = false → (∃ y ∈ m'.workers, y.f0.f0 = 0) → m'.disp = false ∧ m'.sent = [] := by
  have hl := hI.low
  have mid : ∀ {a b : List S99} {y z : S59}, m.workers = a ++ ⟨y⟩ :: b → z.f0 ≠ 0 → (∃ u ∈ a ++ ⟨z⟩ :: b, u.f0.f0 = 0) → ∃ u ∈ m.workers, u.f0.f0 = 0 := by
    rintro a b y z hw hz ⟨u, hu, h0⟩
    rcases mem_mid hu with rfl | hu | hu
    · exact absurd h0 hz
    · exact ⟨u, by rw [hw]; simp [hu], h0⟩
    · exact ⟨u, by rw [hw]; simp [hu], h0⟩
  cases hk with
  | close h0 h1 hd hu => intro hs h; exact ⟨rfl, (hl hs h).2⟩
  | drop h0 h1 hs hd hu => exact hl
  | send h0 h1 hd hu hl' =>
    intro hs h
    have := (hl hs h).1
    rw [hd] at this
    simp at this
  | cancel h0 h1 hs hc => exact hl
  | full h0 h1 hc hg => exact hl
  | got q rest h0 h1 hc hg hv => exact hl
  | quit a b y hw h0 h1 hs hk => intro h; simp only [] at h; rw [hs] at h; simp at h
  | step a b k1 k2 hw h0 h1 hk => intro hs h; exact hl hs (mid hw (by simp) h)
  | gave a b k1 hw h0 h1 hl' => intro hs h; exact hl hs (mid hw (by simp) h)
  | left a b hw h0 h1 hs hd => intro _ _; exact ⟨hd, hs⟩
  | took a b q rest hw h0 h1 hq =>
    intro hs h
    have := (hl hs (mid hw (by simp) h)).2
    rw [hq] at this
    simp at this
theorem inv_run {m m' : Mach} {x : S64} {e : Evt} (hI : Inv m) (hk : Kind m x e m') : m'.stopped = false → m'.dropped = false ∧ (m'.sent.length : Int) + working m'.workers + m'.judged = m'.next ∧ m'.picks + rem m' = boundOf m' := by
  intro hs'
  obtain ⟨hb, hj, hs, hp, _⟩ := kind_bound hk
  have hs0 : m.stopped = false := by rw [← hs]; exact hs'
  obtain ⟨h1, h2, h3⟩ := hI.run hs0
  have hr := (kind_rem hI.ok hk).2 (kind_go hk hs0)
  refine ⟨?_, ?_, by rw [hp, hr, hb]; omega⟩
  · cases hk with
    | drop h0 h1' hs1 hd hu => rw [hs0] at hs1; simp at hs1
    | _ => exact h1
  · cases hk with
    | close h0 h1 hd hu => exact h2
    | drop h0 h1 hs hd hu => exact h2
    | send h0 h1 hd hu hl => simp only [List.length_append, List.length_cons, List.length_nil]; omega
    | cancel h0 h1 hs hc => exact h2
    | full h0 h1 hc hg => exact h2
    | got q rest h0 h1 hc hg hv => exact h2
    | quit a b y hw h0 h1 hs1 hk => rw [hs0] at hs1; simp at hs1
    | step a b k1 k2 hw h0 h1 hk =>
      rw [hw, working_mid] at h2
      show (m.sent.length : Int) + working (a ++ ⟨⟨2, k1, k2 - 1⟩⟩ :: b) + m.judged = m.next
      rw [working_mid]; exact h2
    | gave a b k1 hw h0 h1 hl =>
      rw [hw, working_mid] at h2
      show (m.sent.length : Int) + working (a ++ ⟨⟨1, 0, 0⟩⟩ :: b) + (m.judged + 1) = m.next
      rw [working_mid]
      simp at h2 ⊢
      omega
    | left a b hw h0 h1 hs hd =>
      rw [hw, working_mid] at h2
      show (m.sent.length : Int) + working (a ++ ⟨⟨0, 0, 0⟩⟩ :: b) + m.judged = m.next
      rw [working_mid]
      simp at h2 ⊢
      omega
    | took a b q rest hw h0 h1 hq =>
      rw [hw, working_mid, hq] at h2
      show (rest.length : Int) + working (a ++ ⟨⟨2, q, rd m.jobs q⟩⟩ :: b) + m.judged = m.next
      rw [working_mid]
      simp at h2 ⊢
      omega
theorem inv_gn {m m' : Mach} {x : S64} {e : Evt} (hI : Inv m) (hk : Kind m x e m') : ∀ j ∈ m'.got, 0 ≤ j := by
  cases hk with
  | got q rest h0 h1 hc hg hv =>
    intro j hj
    simp only [List.mem_append, List.mem_singleton] at hj
    rcases hj with hj | rfl
    · exact hI.gn j hj
    · exact (hI.ok.gs _ (by rw [hv]; exact List.mem_cons_self)).1
  | _ => exact hI.gn
theorem inv_kind {m m' : Mach} {x : S64} {e : Evt} (hI : Inv m) (hk : Kind m x e m') : Inv m' := by
  obtain ⟨hb, hj, hs, hp, _⟩ := kind_bound hk
  have ha := inv_alls hI hk
  have ho := inv_out hI hk
  have hr := (kind_rem hI.ok hk).1
  have h0 := hI.pk0
  have h1 := hI.pot
  exact ⟨kind_ok hI.ok hk, by omega, by omega, ho.1, ho.2, inv_run hI hk, inv_low hI hk, ha.1, ha.2, inv_pkn hI hk, inv_wl hI hk, inv_gn hI hk⟩
theorem inv_step {m : Mach} {x : S64} (hI : Inv m) (hx : x ∈ mvs m) : Inv (step m x) := inv_kind hI (kind_of_mem hI.ok hx)
theorem bound_le {m : Mach} (hO : Ok m) : boundOf m ≤ 1004010 := by
  have h1 := sum_range hO.js
  have h2 := hO.nj
  have h3 := hO.nw
  have h4 := hO.pw
  unfold boundOf
  omega
theorem inv_picks {m : Mach} (hI : Inv m) : 0 ≤ m.picks ∧ m.picks ≤ 4000000 := by
  have h1 := rem_nonneg hI.ok
  have h2 := hI.pot
  have h3 := bound_le hI.ok
  exact ⟨hI.pk0, by omega⟩
theorem inv_stop {m : Mach} (hI : Inv m) (hc : m.stopped = false) : Inv { m with stopped := true } := by
  refine ⟨{ hI.ok with }, hI.pk0, hI.pot, ?_, hI.dis, fun h => by simp at h, fun h => by simp at h, hI.nod, hI.lt, hI.pkn, hI.wl, hI.gn⟩
  rcases hI.out with h | ⟨h, h1 | h1⟩
  · exact .inl h
  · exact .inr ⟨h, .inl h1⟩
  · exact .inr ⟨h, .inr ⟨h1.1, rfl⟩⟩
end Go.Proofs.Ythcchpbidbbiaaa.Sc
