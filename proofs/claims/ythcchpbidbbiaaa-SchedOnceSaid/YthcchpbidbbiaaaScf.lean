/- The measure; progress; a machine in use; the chapter's example. -/
import Derived.Test.YthcchpbidbbiaaaScd
import Derived.Deep.RegionHeld3
import Derived.Test.YthcchpbidbbiaaaSce
namespace Go.Proofs.Ythcchpbidbbiaaa.Sc
open Go.RowKit Go.Proofs.YthcchpbidbbiaaaW.PrintWords Go.Proofs.YthcchpbidbbiaaaW.PrintLast Go.Proofs.YthcchpbidbbiaaaW.PrintMore Go.Proofs.Ythcchpbidbbiaaa.PSchedSide
set_option linter.unusedVariables false
set_option linter.unusedSimpArgs false
def aliveTo (m : Mach) : Nat → Int
  | 0 => 0
  | k + 1 => aliveTo m k + (if (placeOf m k).f0 = 0 then 0 else 1)
def stepsTo (m : Mach) : Nat → Int
  | 0 => 0
  | k + 1 => stepsTo m k + (placeOf m k).f2
theorem placeOf_range {m : Mach} (hO : Ok m) (p : Int) : 0 ≤ (placeOf m p).f2 ∧ (placeOf m p).f2 ≤ 1000 := by
  unfold placeOf
  split
  · simp
  · split
    · split <;> simp
    · split
      · split <;> simp
      · have := wk_range hO (p := p) (by omega) (by omega)
        omega
theorem aliveTo_range (m : Mach) (k : Nat) : 0 ≤ aliveTo m k ∧ aliveTo m k ≤ k := by
  induction k with
  | zero => simp [aliveTo]
  | succ k ih =>
    simp only [aliveTo]
    split <;> omega
theorem stepsTo_range {m : Mach} (hO : Ok m) (k : Nat) : 0 ≤ stepsTo m k ∧ stepsTo m k ≤ 1000 * k := by
  induction k with
  | zero => simp [stepsTo]
  | succ k ih =>
    have := placeOf_range hO k
    simp only [stepsTo]
    omega
/-- The measure. -/
structure Meas where
  u : Int
  j : Int
  s : Int
  a : Int
  l : Int
def Meas.v (x : Meas) : Value := .agg #[.int .i64 x.u, .int .i64 x.j, .int .i64 x.s, .int .i64 x.a, .int .i64 x.l]
def measOf (m : Mach) : Meas := ⟨und m, m.jobs.length - m.judged, m.sent.length + m.given.length, aliveTo m (m.workers.length + 2), stepsTo m (m.workers.length + 2)⟩
theorem size_drewN (w : World) (n : Nat) : (w.drewN n).heap.size = w.heap.size := by simp
theorem meas_w1 (w : World) (nd : Nat) (u jj ss : Int) : Below w.heap.size w (((w.alloc (.cells #[.int .i64 0, .int .i64 0, .int .i64 0, .int .i64 0, .int .i64 0] 68)).drewN (1 + nd)).alloc (.cells #[.int .i64 u, .int .i64 jj, .int .i64 ss, .int .i64 0, .int .i64 0] 68)) ∧ ((((w.alloc (.cells #[.int .i64 0, .int .i64 0, .int .i64 0, .int .i64 0, .int .i64 0] 68)).drewN (1 + nd)).alloc (.cells #[.int .i64 u, .int .i64 jj, .int .i64 ss, .int .i64 0, .int .i64 0] 68))).heap[w.heap.size]? = some (.cells #[.int .i64 0, .int .i64 0, .int .i64 0, .int .i64 0, .int .i64 0] 68 (0, 0)) ∧ ((((w.alloc (.cells #[.int .i64 0, .int .i64 0, .int .i64 0, .int .i64 0, .int .i64 0] 68)).drewN (1 + nd)).alloc (.cells #[.int .i64 u, .int .i64 jj, .int .i64 ss, .int .i64 0, .int .i64 0] 68))).heap[w.heap.size + 1]? = some (.cells #[.int .i64 u, .int .i64 jj, .int .i64 ss, .int .i64 0, .int .i64 0] 68 (0, 0)) :=
  ⟨below_alloc (pw_below_drewN (below_alloc (Below.refl _ _) _) _) _, blk_alloc (blk_drewN (heap_alloc_new w _) _) _, new_at _ (by simp)⟩
theorem meas_w2 (w : World) (nd : Nat) (u jj ss : Int) : Below w.heap.size w ((((((((w.alloc (.cells #[.int .i64 0, .int .i64 0, .int .i64 0, .int .i64 0, .int .i64 0] 68)).alloc (.cells #[.int .i64 0, .int .i64 0, .int .i64 0, .int .i64 0, .int .i64 0] 68)).drewN (1 + nd)).setCell ⟨w.heap.size + 1, 0, none⟩ (.int .i64 u)).setCell ⟨w.heap.size + 1, 1, none⟩ (.int .i64 jj)).setCell ⟨w.heap.size + 1, 2, none⟩ (.int .i64 ss)).setCell ⟨w.heap.size + 1, 3, none⟩ (.int .i64 0)).setCell ⟨w.heap.size + 1, 4, none⟩ (.int .i64 0)) ∧ (((((((((w.alloc (.cells #[.int .i64 0, .int .i64 0, .int .i64 0, .int .i64 0, .int .i64 0] 68)).alloc (.cells #[.int .i64 0, .int .i64 0, .int .i64 0, .int .i64 0, .int .i64 0] 68)).drewN (1 + nd)).setCell ⟨w.heap.size + 1, 0, none⟩ (.int .i64 u)).setCell ⟨w.heap.size + 1, 1, none⟩ (.int .i64 jj)).setCell ⟨w.heap.size + 1, 2, none⟩ (.int .i64 ss)).setCell ⟨w.heap.size + 1, 3, none⟩ (.int .i64 0)).setCell ⟨w.heap.size + 1, 4, none⟩ (.int .i64 0))).heap[w.heap.size]? = some (.cells #[.int .i64 0, .int .i64 0, .int .i64 0, .int .i64 0, .int .i64 0] 68 (0, 0)) ∧ (((((((((w.alloc (.cells #[.int .i64 0, .int .i64 0, .int .i64 0, .int .i64 0, .int .i64 0] 68)).alloc (.cells #[.int .i64 0, .int .i64 0, .int .i64 0, .int .i64 0, .int .i64 0] 68)).drewN (1 + nd)).setCell ⟨w.heap.size + 1, 0, none⟩ (.int .i64 u)).setCell ⟨w.heap.size + 1, 1, none⟩ (.int .i64 jj)).setCell ⟨w.heap.size + 1, 2, none⟩ (.int .i64 ss)).setCell ⟨w.heap.size + 1, 3, none⟩ (.int .i64 0)).setCell ⟨w.heap.size + 1, 4, none⟩ (.int .i64 0))).heap[w.heap.size + 1]? = some (.cells #[.int .i64 u, .int .i64 jj, .int .i64 ss, .int .i64 0, .int .i64 0] 68 (0, 0)) := by
  have h1 : ((w.alloc (.cells #[.int .i64 0, .int .i64 0, .int .i64 0, .int .i64 0, .int .i64 0] 68)).alloc (.cells #[.int .i64 0, .int .i64 0, .int .i64 0, .int .i64 0, .int .i64 0] 68)).heap[w.heap.size + 1]? = some (.cells #[.int .i64 0, .int .i64 0, .int .i64 0, .int .i64 0, .int .i64 0] 68 (0, 0)) := new_at _ (by simp)
  have h0 : ((w.alloc (.cells #[.int .i64 0, .int .i64 0, .int .i64 0, .int .i64 0, .int .i64 0] 68)).alloc (.cells #[.int .i64 0, .int .i64 0, .int .i64 0, .int .i64 0, .int .i64 0] 68)).heap[w.heap.size]? = some (.cells #[.int .i64 0, .int .i64 0, .int .i64 0, .int .i64 0, .int .i64 0] 68 (0, 0)) := blk_alloc (heap_alloc_new w _) _
  have hne : w.heap.size + 1 ≠ w.heap.size := by omega
  refine ⟨((((((pw_below_drewN (below_alloc (below_alloc (Below.refl _ _) _) _) _).setCell (Nat.le_succ _) _).setCell (Nat.le_succ _) _).setCell (Nat.le_succ _) _).setCell (Nat.le_succ _) _).setCell (Nat.le_succ _) _), ?_, ?_⟩
  · exact blk_far (blk_far (blk_far (blk_far (blk_far (blk_drewN h0 _) (p := ⟨w.heap.size + 1, 0, none⟩) hne.symm _) (p := ⟨w.heap.size + 1, 1, none⟩) hne.symm _) (p := ⟨w.heap.size + 1, 2, none⟩) hne.symm _) (p := ⟨w.heap.size + 1, 3, none⟩) hne.symm _) (p := ⟨w.heap.size + 1, 4, none⟩) hne.symm _
  · have h := blk_set (blk_set (blk_set (blk_set (blk_set (blk_drewN h1 (1 + nd)) 0 (.int .i64 u)) 1 (.int .i64 jj)) 2 (.int .i64 ss)) 3 (.int .i64 0)) 4 (.int .i64 0)
    exact h
set_option maxHeartbeats 8000000 in
set_option maxRecDepth 1000000 in
theorem measure_calls (w : World) (g : Nat) (s : Sh) (m : Mach) (hI : IsM w g s m) (hO : Ok m) : Calls Try.prog 32 #[ptr g] w fun e w' => e = .returned (measOf m).v ∧ Below w.heap.size w w' := by
  obtain ⟨AJ, cJ, AW, cW, AS, cS, AG, cG, AO, cO, rfl⟩ := hI.slices
  have HI0 := Aside0.mk hI
  have HI := Aside0.mk (hI.alloc (.cells #[.int .i64 0, .int .i64 0, .int .i64 0, .int .i64 0, .int .i64 0] 68))
  have HB := Aside0.mk (below_alloc (Below.refl w.heap.size w) (.cells #[.int .i64 0, .int .i64 0, .int .i64 0, .int .i64 0, .int .i64 0] 68))
  have HE := Aside0.mk (heap_alloc_new w (.cells #[.int .i64 0, .int .i64 0, .int .i64 0, .int .i64 0, .int .i64 0] 68))
  have HO := Aside0.mk hO
  have bj := hO.jd
  have bn := hO.nj
  have bw : (m.workers.length : Int) ≤ 8 := by have := hO.nw; have := hO.pw; omega
  have bs : (m.sent.length : Int) ≤ 8 := by have := hO.ns; have := hO.pj; omega
  have bg : (m.given.length : Int) ≤ 8 := by have := hO.ng; have := hO.pr; omega
  have bjj : 0 ≤ m.judged ∧ m.judged ≤ 1000 := by have := hO.ct; have := hO.nx; omega
  obtain ⟨u, hu⟩ : ∃ u, und m = u := ⟨_, rfl⟩
  have HU := Aside0.mk hu
  obtain ⟨x0, x1, x2, x3, x4, x5, x6, x7, x8, x9, x10, x11, x12, x13, x14, x15, x16⟩ := HI.out.cells
  have hg := hI.lt
  have ng1 : ¬ (w.heap.size + 1 = g) := by omega
  have ng2 : ¬ (g = w.heap.size + 1) := by omega
  clear x0 x1 x2 x4 x5 x6 x7 x12 x13 x14 x15 x16 bj hI hO hu
  obtain ⟨jj, hjj⟩ : ∃ jj, (m.jobs.length : Int) - m.judged = jj := ⟨_, rfl⟩
  obtain ⟨ss, hss⟩ : ∃ ss, (m.sent.length : Int) + m.given.length = ss := ⟨_, rfl⟩
  have hjw : IntKind.i64.wrap ((m.jobs.length : Int) - m.judged) = jj := by rw [IntWalk.i64_in _ ⟨by omega, by omega⟩]; exact hjj
  have hsw : IntKind.i64.wrap ((m.sent.length : Int) + m.given.length) = ss := by rw [IntWalk.i64_in _ ⟨by omega, by omega⟩]; exact hss
  have HJJ := Aside0.mk hjj
  have HSS := Aside0.mk hss
  have HBW := Aside0.mk bw
  have HG0 := Aside0.mk (hg : g < w.heap.size)
  clear hjj hss bjj bs bg bn
  go_enter Try.func32, Try.ntmps32
  go_wp2
  go_region_held3 (fun w' => w'.cell? ⟨g, 3, none⟩ = some (.slice AJ m.jobs.length cJ) ∧ w'.cell? ⟨g, 11, none⟩ = some (.int .i64 m.judged) ∧ w'.cell? ⟨g, 9, none⟩ = some (.slice AS m.sent.length cS) ∧ w'.cell? ⟨g, 10, none⟩ = some (.slice AG m.given.length cG)) (go_keep) ((go_at_call 54; refine (und_calls _ g _ m u (by first | exact HI.out | exact HI.out.alloc _ | exact HI.out.drew | exact (HI.out.alloc _).drew | exact (HI.out.drew).alloc _) HO.out HU.out).mono ?_; rintro e w2 ⟨rfl, nd, rfl⟩))
  · have H := Aside0.mk (meas_w1 w nd u jj ss)
    generalize (((w.alloc (.cells #[.int .i64 0, .int .i64 0, .int .i64 0, .int .i64 0, .int .i64 0] 68)).drewN (1 + nd)).alloc (.cells #[.int .i64 u, .int .i64 jj, .int .i64 ss, .int .i64 0, .int .i64 0] 68)) = W2 at H ⊢
    have HB2 := Aside0.mk H.out.1
    have HZ2 := Aside0.mk H.out.2.1
    have HX2 := Aside0.mk H.out.2.2
    have y8 : W2.cell? ⟨g, 8, none⟩ = some (.slice AW m.workers.length cW) := (blk_cell (HI0.out.below HB2.out).blk 8).trans rfl
    obtain ⟨n, hn⟩ : ∃ n, m.workers.length = n := ⟨_, rfl⟩
    rw [hn] at y8
    have HN := Aside0.mk hn
    have hn8 : n ≤ 8 := by have := HBW.out; omega
    clear hn H x3 x8 x9 x10 x11 ng1 ng2 hg
    go_wp2
    go_loopw [37] (fun i wr => ∃ k : Nat, i = .int .i64 k ∧ k ≤ n + 2 ∧ Below w.heap.size w wr ∧ wr.heap[w.heap.size]? = some (.cells #[.int .i64 0, .int .i64 0, .int .i64 0, .int .i64 0, .int .i64 0] 68 (0, 0)) ∧ wr.heap[w.heap.size + 1]? = some (.cells #[.int .i64 u, .int .i64 jj, .int .i64 ss, .int .i64 (aliveTo m k), .int .i64 (stepsTo m k)] 68 (0, 0))) (fun i _ => n + 2 - (intOf i).toNat)
    case atStart => exact ⟨0, rfl, Nat.zero_le _, HB2.out, HZ2.out, HX2.out⟩
    case round =>
      obtain ⟨k, rfl, hk, hb, hz, hxx⟩ := hrel
      have HB := Aside0.mk hb
      have HZ := Aside0.mk hz
      have HX := Aside0.mk hxx
      clear hb hz hxx
      by_cases hlt : k < n + 2
      · have p0 : decide ((k : Int) < (n : Int) + 2) = true := decide_eq_true (by omega)
        have q0 := eq_true (show (k : Int) < (n : Int) + 2 by omega)
        have hkr := Aside0.mk (show -9223372036854775808 ≤ (k : Int) ∧ (k : Int) ≤ 9223372036854775807 from ⟨by omega, by omega⟩)
        obtain ⟨y, hy⟩ : ∃ y, placeOf m k = y := ⟨_, rfl⟩
        obtain ⟨y0, y1, y2⟩ := y
        have hyr := placeOf_range HO.out k
        rw [hy] at hyr
        obtain ⟨hyr0, hyr1⟩ := hyr
        simp only [] at hyr0 hyr1
        obtain ⟨av, hav⟩ : ∃ av, aliveTo m k = av := ⟨_, rfl⟩
        obtain ⟨sv, hsv⟩ : ∃ sv, stepsTo m k = sv := ⟨_, rfl⟩
        have har := aliveTo_range m k
        have hsr := stepsTo_range HO.out k
        rw [hav] at har
        rw [hsv] at hsr
        rw [hav, hsv] at HX
        obtain ⟨har0, har1⟩ := har
        obtain ⟨hsr0, hsr1⟩ := hsr
        have HAV := Aside0.mk (show aliveTo m (k + 1) = av + (if y0 = 0 then 0 else 1) from by simp only [aliveTo]; rw [hav, hy])
        have HSV := Aside0.mk (show stepsTo m (k + 1) = sv + y2 from by simp only [stepsTo]; rw [hsv, hy])
        have HY := Aside0.mk (show pl (placeOf m k) = .agg #[.int .i64 y0, .int .i64 y1, .int .i64 y2] from by rw [hy]; rfl)
        have HIK := Aside0.mk (HI0.out.below HB.out)
        clear hy hav hsv
        by_cases hy0 : y0 = 0
        · have b0 : (y0 != 0) = false := by simp [hy0]
          have HAV2 := Aside0.mk (show aliveTo m (k + 1) = av from by rw [HAV.out, if_pos hy0]; omega)
          clear hy0
          go_wp2_with (first | (go_at_call 29; (with_reducible refine (place_calls _ g _ m k hkr.out HIK.out HO.out).mono ?_); rintro e w2 ⟨rfl, hb⟩; rw [HY.out]; have HB3 := Aside0.mk (HB.out.trans (hb.mono HB.out.size)); have HZ3 := Aside0.mk ((hb.block _ (blk_lt HZ.out)).trans HZ.out); have HX3 := Aside0.mk ((hb.block _ (blk_lt HX.out)).trans HX.out); have c3 : w2.cell? ⟨w.heap.size + 1, 3, none⟩ = some (.int .i64 av) := (blk_cell HX3.out 3).trans rfl; have c4 : w2.cell? ⟨w.heap.size + 1, 4, none⟩ = some (.int .i64 sv) := (blk_cell HX3.out 4).trans rfl; have f3 := blk_frozen HX3.out 3; have f4 := blk_frozen HX3.out 4; have lx := blk_lt HX3.out; clear hb))
          go_roundw
          case rel => exact ⟨k + 1, by go_num, by omega, below_alloc (HB3.out.setCell (p := ⟨w.heap.size + 1, 4, none⟩) (Nat.le_succ _) _) _, blk_alloc (blk_far (p := ⟨w.heap.size + 1, 4, none⟩) HZ3.out (Nat.ne_of_lt (Nat.lt_succ_self _)) _) _, by rw [HAV2.out, HSV.out]; exact blk_alloc (blk_set HX3.out 4 _) _⟩
          case measure => simp [intOf]; omega
        · have b0 : (y0 != 0) = true := by simp [hy0]
          have HAV2 := Aside0.mk (show aliveTo m (k + 1) = av + 1 from by rw [HAV.out, if_neg hy0])
          clear hy0
          go_wp2_with (first | (go_at_call 29; (with_reducible refine (place_calls _ g _ m k hkr.out HIK.out HO.out).mono ?_); rintro e w2 ⟨rfl, hb⟩; rw [HY.out]; have HB3 := Aside0.mk (HB.out.trans (hb.mono HB.out.size)); have HZ3 := Aside0.mk ((hb.block _ (blk_lt HZ.out)).trans HZ.out); have HX3 := Aside0.mk ((hb.block _ (blk_lt HX.out)).trans HX.out); have c3 : w2.cell? ⟨w.heap.size + 1, 3, none⟩ = some (.int .i64 av) := (blk_cell HX3.out 3).trans rfl; have c4 : w2.cell? ⟨w.heap.size + 1, 4, none⟩ = some (.int .i64 sv) := (blk_cell HX3.out 4).trans rfl; have f3 := blk_frozen HX3.out 3; have f4 := blk_frozen HX3.out 4; have lx := blk_lt HX3.out; clear hb))
          go_roundw
          case rel => exact ⟨k + 1, by go_num, by omega, below_alloc ((HB3.out.setCell (p := ⟨w.heap.size + 1, 3, none⟩) (Nat.le_succ _) _).setCell (p := ⟨w.heap.size + 1, 4, none⟩) (Nat.le_succ _) _) _, blk_alloc (blk_far (p := ⟨w.heap.size + 1, 4, none⟩) (blk_far (p := ⟨w.heap.size + 1, 3, none⟩) HZ3.out (Nat.ne_of_lt (Nat.lt_succ_self _)) _) (Nat.ne_of_lt (Nat.lt_succ_self _)) _) _, by rw [HAV2.out, HSV.out]; exact blk_alloc (blk_set (blk_set HX3.out 3 _) 4 _) _⟩
          case measure => simp [intOf]; omega
      · have p0 : decide ((k : Int) < (n : Int) + 2) = false := decide_eq_false (by omega)
        have hkn : k = n + 2 := by omega
        subst hkn
        obtain ⟨av, hav⟩ : ∃ av, aliveTo m (n + 2) = av := ⟨_, rfl⟩
        obtain ⟨sv, hsv⟩ : ∃ sv, stepsTo m (n + 2) = sv := ⟨_, rfl⟩
        rw [hav, hsv] at HX
        have HR := Aside0.mk (show measOf m = ⟨u, jj, ss, av, sv⟩ from by unfold measOf; rw [HU.out, HJJ.out, HSS.out, HN.out, hav, hsv])
        have c0 : wr.cell? ⟨w.heap.size + 1, 0, none⟩ = some (.int .i64 u) := (blk_cell HX.out 0).trans rfl
        have c1 : wr.cell? ⟨w.heap.size + 1, 1, none⟩ = some (.int .i64 jj) := (blk_cell HX.out 1).trans rfl
        have c2 : wr.cell? ⟨w.heap.size + 1, 2, none⟩ = some (.int .i64 ss) := (blk_cell HX.out 2).trans rfl
        have c3 : wr.cell? ⟨w.heap.size + 1, 3, none⟩ = some (.int .i64 av) := (blk_cell HX.out 3).trans rfl
        have c4 : wr.cell? ⟨w.heap.size + 1, 4, none⟩ = some (.int .i64 sv) := (blk_cell HX.out 4).trans rfl
        have d0 : wr.cell? ⟨w.heap.size, 0, none⟩ = some (.int .i64 0) := (blk_cell HZ.out 0).trans rfl
        have d1 : wr.cell? ⟨w.heap.size, 1, none⟩ = some (.int .i64 0) := (blk_cell HZ.out 1).trans rfl
        have d2 : wr.cell? ⟨w.heap.size, 2, none⟩ = some (.int .i64 0) := (blk_cell HZ.out 2).trans rfl
        have d3 : wr.cell? ⟨w.heap.size, 3, none⟩ = some (.int .i64 0) := (blk_cell HZ.out 3).trans rfl
        have d4 : wr.cell? ⟨w.heap.size, 4, none⟩ = some (.int .i64 0) := (blk_cell HZ.out 4).trans rfl
        have f0 := blk_frozen HZ.out 0
        have f1 := blk_frozen HZ.out 1
        have f2 := blk_frozen HZ.out 2
        have f3 := blk_frozen HZ.out 3
        have f4 := blk_frozen HZ.out 4
        clear hav hsv hlt p0
        go_wp2
        have h5 := blk_set (blk_set (blk_set (blk_set (blk_set HZ.out 0 (.int .i64 u)) 1 (.int .i64 jj)) 2 (.int .i64 ss)) 3 (.int .i64 av)) 4 (.int .i64 sv)
        exact bodyPost_ret (results_cell_row rfl _ _ w.heap.size 68 #[.int .i64 u, .int .i64 jj, .int .i64 ss, .int .i64 av, .int .i64 sv] (0, 0) _ rfl h5 Try.underlying68 rfl (by kernel_rfl)) rfl ⟨by rw [HR.out]; rfl, ((((HB.out.setCell (Nat.le_refl _) _).setCell (Nat.le_refl _) _).setCell (Nat.le_refl _) _).setCell (Nat.le_refl _) _).setCell (Nat.le_refl _) _⟩
  · have H := Aside0.mk (meas_w2 w nd u jj ss)
    generalize ((((((((w.alloc (.cells #[.int .i64 0, .int .i64 0, .int .i64 0, .int .i64 0, .int .i64 0] 68)).alloc (.cells #[.int .i64 0, .int .i64 0, .int .i64 0, .int .i64 0, .int .i64 0] 68)).drewN (1 + nd)).setCell ⟨w.heap.size + 1, 0, none⟩ (.int .i64 u)).setCell ⟨w.heap.size + 1, 1, none⟩ (.int .i64 jj)).setCell ⟨w.heap.size + 1, 2, none⟩ (.int .i64 ss)).setCell ⟨w.heap.size + 1, 3, none⟩ (.int .i64 0)).setCell ⟨w.heap.size + 1, 4, none⟩ (.int .i64 0)) = W2 at H ⊢
    have HB2 := Aside0.mk H.out.1
    have HZ2 := Aside0.mk H.out.2.1
    have HX2 := Aside0.mk H.out.2.2
    have y8 : W2.cell? ⟨g, 8, none⟩ = some (.slice AW m.workers.length cW) := (blk_cell (HI0.out.below HB2.out).blk 8).trans rfl
    obtain ⟨n, hn⟩ : ∃ n, m.workers.length = n := ⟨_, rfl⟩
    rw [hn] at y8
    have HN := Aside0.mk hn
    have hn8 : n ≤ 8 := by have := HBW.out; omega
    clear hn H x3 x8 x9 x10 x11 ng1 ng2 hg
    go_wp2
    go_loopw [37] (fun i wr => ∃ k : Nat, i = .int .i64 k ∧ k ≤ n + 2 ∧ Below w.heap.size w wr ∧ wr.heap[w.heap.size]? = some (.cells #[.int .i64 0, .int .i64 0, .int .i64 0, .int .i64 0, .int .i64 0] 68 (0, 0)) ∧ wr.heap[w.heap.size + 1]? = some (.cells #[.int .i64 u, .int .i64 jj, .int .i64 ss, .int .i64 (aliveTo m k), .int .i64 (stepsTo m k)] 68 (0, 0))) (fun i _ => n + 2 - (intOf i).toNat)
    case atStart => exact ⟨0, rfl, Nat.zero_le _, HB2.out, HZ2.out, HX2.out⟩
    case round =>
      obtain ⟨k, rfl, hk, hb, hz, hxx⟩ := hrel
      have HB := Aside0.mk hb
      have HZ := Aside0.mk hz
      have HX := Aside0.mk hxx
      clear hb hz hxx
      by_cases hlt : k < n + 2
      · have p0 : decide ((k : Int) < (n : Int) + 2) = true := decide_eq_true (by omega)
        have q0 := eq_true (show (k : Int) < (n : Int) + 2 by omega)
        have hkr := Aside0.mk (show -9223372036854775808 ≤ (k : Int) ∧ (k : Int) ≤ 9223372036854775807 from ⟨by omega, by omega⟩)
        obtain ⟨y, hy⟩ : ∃ y, placeOf m k = y := ⟨_, rfl⟩
        obtain ⟨y0, y1, y2⟩ := y
        have hyr := placeOf_range HO.out k
        rw [hy] at hyr
        obtain ⟨hyr0, hyr1⟩ := hyr
        simp only [] at hyr0 hyr1
        obtain ⟨av, hav⟩ : ∃ av, aliveTo m k = av := ⟨_, rfl⟩
        obtain ⟨sv, hsv⟩ : ∃ sv, stepsTo m k = sv := ⟨_, rfl⟩
        have har := aliveTo_range m k
        have hsr := stepsTo_range HO.out k
        rw [hav] at har
        rw [hsv] at hsr
        rw [hav, hsv] at HX
        obtain ⟨har0, har1⟩ := har
        obtain ⟨hsr0, hsr1⟩ := hsr
        have HAV := Aside0.mk (show aliveTo m (k + 1) = av + (if y0 = 0 then 0 else 1) from by simp only [aliveTo]; rw [hav, hy])
        have HSV := Aside0.mk (show stepsTo m (k + 1) = sv + y2 from by simp only [stepsTo]; rw [hsv, hy])
        have HY := Aside0.mk (show pl (placeOf m k) = .agg #[.int .i64 y0, .int .i64 y1, .int .i64 y2] from by rw [hy]; rfl)
        have HIK := Aside0.mk (HI0.out.below HB.out)
        clear hy hav hsv
        by_cases hy0 : y0 = 0
        · have b0 : (y0 != 0) = false := by simp [hy0]
          have HAV2 := Aside0.mk (show aliveTo m (k + 1) = av from by rw [HAV.out, if_pos hy0]; omega)
          clear hy0
          go_wp2_with (first | (go_at_call 29; (with_reducible refine (place_calls _ g _ m k hkr.out HIK.out HO.out).mono ?_); rintro e w2 ⟨rfl, hb⟩; rw [HY.out]; have HB3 := Aside0.mk (HB.out.trans (hb.mono HB.out.size)); have HZ3 := Aside0.mk ((hb.block _ (blk_lt HZ.out)).trans HZ.out); have HX3 := Aside0.mk ((hb.block _ (blk_lt HX.out)).trans HX.out); have c3 : w2.cell? ⟨w.heap.size + 1, 3, none⟩ = some (.int .i64 av) := (blk_cell HX3.out 3).trans rfl; have c4 : w2.cell? ⟨w.heap.size + 1, 4, none⟩ = some (.int .i64 sv) := (blk_cell HX3.out 4).trans rfl; have f3 := blk_frozen HX3.out 3; have f4 := blk_frozen HX3.out 4; have lx := blk_lt HX3.out; clear hb))
          go_roundw
          case rel => exact ⟨k + 1, by go_num, by omega, below_alloc (HB3.out.setCell (p := ⟨w.heap.size + 1, 4, none⟩) (Nat.le_succ _) _) _, blk_alloc (blk_far (p := ⟨w.heap.size + 1, 4, none⟩) HZ3.out (Nat.ne_of_lt (Nat.lt_succ_self _)) _) _, by rw [HAV2.out, HSV.out]; exact blk_alloc (blk_set HX3.out 4 _) _⟩
          case measure => simp [intOf]; omega
        · have b0 : (y0 != 0) = true := by simp [hy0]
          have HAV2 := Aside0.mk (show aliveTo m (k + 1) = av + 1 from by rw [HAV.out, if_neg hy0])
          clear hy0
          go_wp2_with (first | (go_at_call 29; (with_reducible refine (place_calls _ g _ m k hkr.out HIK.out HO.out).mono ?_); rintro e w2 ⟨rfl, hb⟩; rw [HY.out]; have HB3 := Aside0.mk (HB.out.trans (hb.mono HB.out.size)); have HZ3 := Aside0.mk ((hb.block _ (blk_lt HZ.out)).trans HZ.out); have HX3 := Aside0.mk ((hb.block _ (blk_lt HX.out)).trans HX.out); have c3 : w2.cell? ⟨w.heap.size + 1, 3, none⟩ = some (.int .i64 av) := (blk_cell HX3.out 3).trans rfl; have c4 : w2.cell? ⟨w.heap.size + 1, 4, none⟩ = some (.int .i64 sv) := (blk_cell HX3.out 4).trans rfl; have f3 := blk_frozen HX3.out 3; have f4 := blk_frozen HX3.out 4; have lx := blk_lt HX3.out; clear hb))
          go_roundw
          case rel => exact ⟨k + 1, by go_num, by omega, below_alloc ((HB3.out.setCell (p := ⟨w.heap.size + 1, 3, none⟩) (Nat.le_succ _) _).setCell (p := ⟨w.heap.size + 1, 4, none⟩) (Nat.le_succ _) _) _, blk_alloc (blk_far (p := ⟨w.heap.size + 1, 4, none⟩) (blk_far (p := ⟨w.heap.size + 1, 3, none⟩) HZ3.out (Nat.ne_of_lt (Nat.lt_succ_self _)) _) (Nat.ne_of_lt (Nat.lt_succ_self _)) _) _, by rw [HAV2.out, HSV.out]; exact blk_alloc (blk_set (blk_set HX3.out 3 _) 4 _) _⟩
          case measure => simp [intOf]; omega
      · have p0 : decide ((k : Int) < (n : Int) + 2) = false := decide_eq_false (by omega)
        have hkn : k = n + 2 := by omega
        subst hkn
        obtain ⟨av, hav⟩ : ∃ av, aliveTo m (n + 2) = av := ⟨_, rfl⟩
        obtain ⟨sv, hsv⟩ : ∃ sv, stepsTo m (n + 2) = sv := ⟨_, rfl⟩
        rw [hav, hsv] at HX
        have HR := Aside0.mk (show measOf m = ⟨u, jj, ss, av, sv⟩ from by unfold measOf; rw [HU.out, HJJ.out, HSS.out, HN.out, hav, hsv])
        have c0 : wr.cell? ⟨w.heap.size + 1, 0, none⟩ = some (.int .i64 u) := (blk_cell HX.out 0).trans rfl
        have c1 : wr.cell? ⟨w.heap.size + 1, 1, none⟩ = some (.int .i64 jj) := (blk_cell HX.out 1).trans rfl
        have c2 : wr.cell? ⟨w.heap.size + 1, 2, none⟩ = some (.int .i64 ss) := (blk_cell HX.out 2).trans rfl
        have c3 : wr.cell? ⟨w.heap.size + 1, 3, none⟩ = some (.int .i64 av) := (blk_cell HX.out 3).trans rfl
        have c4 : wr.cell? ⟨w.heap.size + 1, 4, none⟩ = some (.int .i64 sv) := (blk_cell HX.out 4).trans rfl
        have d0 : wr.cell? ⟨w.heap.size, 0, none⟩ = some (.int .i64 0) := (blk_cell HZ.out 0).trans rfl
        have d1 : wr.cell? ⟨w.heap.size, 1, none⟩ = some (.int .i64 0) := (blk_cell HZ.out 1).trans rfl
        have d2 : wr.cell? ⟨w.heap.size, 2, none⟩ = some (.int .i64 0) := (blk_cell HZ.out 2).trans rfl
        have d3 : wr.cell? ⟨w.heap.size, 3, none⟩ = some (.int .i64 0) := (blk_cell HZ.out 3).trans rfl
        have d4 : wr.cell? ⟨w.heap.size, 4, none⟩ = some (.int .i64 0) := (blk_cell HZ.out 4).trans rfl
        have f0 := blk_frozen HZ.out 0
        have f1 := blk_frozen HZ.out 1
        have f2 := blk_frozen HZ.out 2
        have f3 := blk_frozen HZ.out 3
        have f4 := blk_frozen HZ.out 4
        clear hav hsv hlt p0
        go_wp2
        have h5 := blk_set (blk_set (blk_set (blk_set (blk_set HZ.out 0 (.int .i64 u)) 1 (.int .i64 jj)) 2 (.int .i64 ss)) 3 (.int .i64 av)) 4 (.int .i64 sv)
        exact bodyPost_ret (results_cell_row rfl _ _ w.heap.size 68 #[.int .i64 u, .int .i64 jj, .int .i64 ss, .int .i64 av, .int .i64 sv] (0, 0) _ rfl h5 Try.underlying68 rfl (by kernel_rfl)) rfl ⟨by rw [HR.out]; rfl, ((((HB.out.setCell (Nat.le_refl _) _).setCell (Nat.le_refl _) _).setCell (Nat.le_refl _) _).setCell (Nat.le_refl _) _).setCell (Nat.le_refl _) _⟩
end Go.Proofs.Ythcchpbidbbiaaa.Sc
namespace Go.Proofs.Ythcchpbidbbiaaa.Sc
open Go.RowKit Go.Proofs.YthcchpbidbbiaaaW.PrintWords Go.Proofs.YthcchpbidbbiaaaW.PrintLast Go.Proofs.YthcchpbidbbiaaaW.PrintMore Go.Proofs.Ythcchpbidbbiaaa.PSchedSide
set_option linter.unusedVariables false
set_option linter.unusedSimpArgs false
theorem mem_disp {m : Mach} (h : readyD m false = true) : (⟨0, 0⟩ : S64) ∈ mvs m := by
  rw [mem_mvs]
  exact ⟨Int.le_refl _, by simp only []; omega, .inl ⟨rfl, by simpa [rdy] using h⟩⟩
theorem mem_coll {m : Mach} (h : readyC m false = true) : (⟨m.workers.length + 1, 0⟩ : S64) ∈ mvs m := by
  rw [mem_mvs]
  refine ⟨by simp only []; omega, Int.le_refl _, .inl ⟨rfl, ?_⟩⟩
  simp only [rdy]
  rw [if_neg (by omega), if_pos trivial]
  exact h
theorem mem_work {m : Mach} {p : Int} (h0 : 1 ≤ p) (h1 : p ≤ m.workers.length) (h : readyW m p false = true) : (⟨p, 0⟩ : S64) ∈ mvs m := by
  rw [mem_mvs]
  refine ⟨by simp only []; omega, by simp only []; omega, .inl ⟨rfl, ?_⟩⟩
  simp only [rdy]
  rw [if_neg (by omega), if_neg (by omega)]
  exact h
theorem mem_stop {m : Mach} {p : Int} (hs : m.stopped = true) (h0 : 0 ≤ p) (h1 : p ≤ m.workers.length + 1) (h : rdy m p true = true) : (⟨p, 1⟩ : S64) ∈ mvs m := by
  rw [mem_mvs]
  exact ⟨h0, h1, .inr ⟨rfl, hs, h⟩⟩
theorem up_at {ws : List S99} (h : anyUp ws = true) : ∃ p : Int, 1 ≤ p ∧ p ≤ ws.length ∧ (rd_T99 ws (p - 1)).f0.f0 ≠ 0 := by
  unfold anyUp at h
  rw [List.any_eq_true] at h
  obtain ⟨x, hx, hne⟩ := h
  obtain ⟨i, hi, he⟩ := List.getElem_of_mem hx
  refine ⟨i + 1, by omega, by omega, ?_⟩
  have e : ((i : Int) + 1 - 1).toNat = i := by omega
  unfold rd_T99
  rw [e, List.getD_eq_getElem?_getD, List.getElem?_eq_getElem hi, Option.getD_some, he]
  simpa using hne
theorem down_all {ws : List S99} (h : anyUp ws = false) : ∀ x ∈ ws, x.f0.f0 = 0 := by
  intro x hx
  unfold anyUp at h
  rw [List.any_eq_false] at h
  simpa using h x hx
theorem working_zero {ws : List S99} (h : ∀ x ∈ ws, x.f0.f0 = 0) : working ws = 0 := by
  unfold working
  rw [List.filter_eq_nil_iff.2 (fun x hx => by simp [h x hx])]
  rfl
/-- A worker that is alive can go on, if nobody is cancelled and there is something for it, or nothing more will come. -/
theorem work_ready {m : Mach} (hI : Inv m) (hs : m.stopped = false) {p : Int} (h0 : 1 ≤ p) (h1 : p ≤ m.workers.length) (hk : (wk m p).f0 ≠ 0) (hx : m.sent ≠ [] ∨ m.disp = false) : mvs m ≠ [] := by
  obtain ⟨hd, hct, _⟩ := hI.run hs
  have hO := hI.ok
  have hr := wk_range hO h0 h1
  by_cases h2 : (wk m p).f0 = 2
  · by_cases hl : 0 < (wk m p).f2
    · exact List.ne_nil_of_mem (mem_work h0 h1 (by simp [readyW, h2, hl]))
    · by_cases hg : (m.given.length : Int) < m.pr
      · exact List.ne_nil_of_mem (mem_work h0 h1 (by simp [readyW, h2, hl, hg]))
      · have hpr := hO.pr
        have hgl : 0 < m.given.length := by omega
        have hc : m.coll = true := by
          rcases hI.out with h | ⟨h, h3 | h3⟩
          · exact h.1
          · have := hO.jd
            have := hO.nx
            have := working_le m.workers
            omega
          · rw [hs] at h3; simp at h3
        exact List.ne_nil_of_mem (mem_coll (by simp [readyC, hc, hgl]))
  · rcases hx with hx | hx
    · have hl : ¬ m.sent.length = 0 := fun h => hx (List.eq_nil_of_length_eq_zero h)
      exact List.ne_nil_of_mem (mem_work h0 h1 (by simp [readyW, hk, h2, hl]))
    · exact List.ne_nil_of_mem (mem_work h0 h1 (by simp [readyW, hk, h2, hx]))
theorem progress {m : Mach} (hI : Inv m) (hd : doneOf m = false) : mvs m ≠ [] := by
  have hO := hI.ok
  have hpw := hO.pw
  have hnw := hO.nw
  cases hs : m.stopped with
  | true =>
    by_cases h1 : m.disp = true
    · by_cases hu : und m = 0
      · exact List.ne_nil_of_mem (mem_disp (by simp [readyD, h1, hu]))
      · exact List.ne_nil_of_mem (mem_stop hs (Int.le_refl _) (by omega) (by simp [rdy, readyD, h1, hu]))
    · by_cases h2 : m.coll = true
      · refine List.ne_nil_of_mem (mem_stop (p := m.workers.length + 1) hs (by omega) (Int.le_refl _) ?_)
        simp only [rdy]
        rw [if_neg (by omega), if_pos trivial]
        simp [readyC, h2]
      · have h3 : anyUp m.workers = true := by simpa [doneOf, h1, h2] using hd
        obtain ⟨p, hp0, hp1, hne⟩ := up_at h3
        refine List.ne_nil_of_mem (mem_stop (p := p) hs (by omega) (by omega) ?_)
        simp only [rdy]
        rw [if_neg (by omega), if_neg (by omega)]
        simp only [readyW]
        have hne' : (wk m p).f0 ≠ 0 := hne
        rw [if_neg hne', if_pos trivial]
  | false =>
    obtain ⟨hdr, hct, _⟩ := hI.run hs
    have hlow := hI.low hs
    by_cases h1 : m.disp = true
    · by_cases hu : und m = 0
      · exact List.ne_nil_of_mem (mem_disp (by simp [readyD, h1, hu]))
      · by_cases hl : (m.sent.length : Int) < m.pj
        · exact List.ne_nil_of_mem (mem_disp (by simp [readyD, h1, hu, hl]))
        · have hpj := hO.pj
          have hne : (wk m 1).f0 ≠ 0 := by
            intro h
            have hlt : (1 - 1 : Int).toNat < m.workers.length := by omega
            have := (hlow ⟨rd_T99 m.workers (1 - 1), by
              unfold rd_T99
              rw [List.getD_eq_getElem?_getD, List.getElem?_eq_getElem hlt]
              exact List.getElem_mem hlt, h⟩).1
            rw [h1] at this
            simp at this
          exact work_ready hI hs (p := 1) (Int.le_refl _) (by omega) hne (.inl (fun h => by rw [h] at hl; simp at hl; omega))
    · have hd1 : m.disp = false := by simpa using h1
      have hu := hI.dis hd1
      rw [und_eq hdr] at hu
      by_cases h3 : anyUp m.workers = true
      · obtain ⟨p, hp0, hp1, hne⟩ := up_at h3
        exact work_ready hI hs hp0 hp1 hne (.inr hd1)
      · have h3' : anyUp m.workers = false := by simpa using h3
        have h2 : m.coll = true := by simpa [doneOf, hd1, h3'] using hd
        have hall := down_all h3'
        have hw0 := working_zero hall
        have hse : m.sent = [] := by
          have hlt : 0 < m.workers.length := by omega
          exact (hlow ⟨m.workers[0], List.getElem_mem hlt, hall _ (List.getElem_mem hlt)⟩).2
        rw [hse, hw0] at hct
        have hjd := hO.jd
        by_cases hg : m.got.length = m.jobs.length
        · exact List.ne_nil_of_mem (mem_coll (by simp [readyC, h2, hg]))
        · have hgl : 0 < m.given.length := by simp at hct; omega
          exact List.ne_nil_of_mem (mem_coll (by simp [readyC, h2, hgl]))
theorem done_none {m : Mach} (hO : Ok m) (hd : doneOf m = true) : mvs m = [] := by
  have h : m.disp = false ∧ m.coll = false ∧ anyUp m.workers = false := by
    unfold doneOf at hd
    simp only [Bool.and_eq_true, Bool.not_eq_true'] at hd
    exact ⟨hd.1.1, hd.1.2, hd.2⟩
  obtain ⟨h1, h2, h3⟩ := h
  have hall := down_all h3
  cases hm : mvs m with
  | nil => rfl
  | cons x xs =>
    have hx : x ∈ mvs m := by rw [hm]; exact List.mem_cons_self
    have hk := kind_of_mem hO hx
    have no : ∀ {a b : List S99} {y : S59}, m.workers = a ++ ⟨y⟩ :: b → y.f0 = 0 := fun hw => hall ⟨_⟩ (by rw [hw]; simp)
    generalize evOf m x = e at hk
    generalize step m x = m2 at hk
    cases hk with
    | close _ _ hd' _ => rw [h1] at hd'; simp at hd'
    | drop _ _ _ hd' _ => rw [h1] at hd'; simp at hd'
    | send _ _ hd' _ _ => rw [h1] at hd'; simp at hd'
    | cancel _ _ _ hc => rw [h2] at hc; simp at hc
    | full _ _ hc _ => rw [h2] at hc; simp at hc
    | got _ _ _ _ hc _ _ => rw [h2] at hc; simp at hc
    | quit a b y hw _ _ _ hk => exact absurd (no hw) hk
    | step a b k1 k2 hw _ _ _ => exact absurd (no hw) (by simp)
    | gave a b k1 hw _ _ _ => exact absurd (no hw) (by simp)
    | left a b hw _ _ _ _ => exact absurd (no hw) (by simp)
    | took a b q rest hw _ _ _ => exact absurd (no hw) (by simp)
def aliveW (ws : List S99) : Int := (ws.map (fun x => if x.f0.f0 = 0 then (0 : Int) else 1)).sum
def stepsW (ws : List S99) : Int := (ws.map (fun x => x.f0.f2)).sum
theorem placeOf_worker {m : Mach} {k : Nat} (hk : k < m.workers.length) : placeOf m ((k + 1 : Nat) : Int) = m.workers[k].f0 := by
  unfold placeOf
  rw [if_neg (by omega), if_neg (by omega), if_neg (by omega)]
  unfold wk rd_T99
  have e : (((k + 1 : Nat) : Int) - 1).toNat = k := by omega
  rw [e, List.getD_eq_getElem?_getD, List.getElem?_eq_getElem hk]
  rfl
theorem placeOf_disp (m : Mach) : placeOf m ((0 : Nat) : Int) = if m.disp then ⟨1, 0, 0⟩ else ⟨0, 0, 0⟩ := by
  unfold placeOf
  rw [if_neg (by omega), if_pos (by rfl)]
theorem placeOf_coll (m : Mach) : placeOf m ((m.workers.length + 1 : Nat) : Int) = if m.coll then ⟨1, 0, 0⟩ else ⟨0, 0, 0⟩ := by
  unfold placeOf
  rw [if_neg (by omega), if_neg (by omega), if_pos (by omega)]
theorem to_workers (m : Mach) (k : Nat) (hk : k ≤ m.workers.length) : aliveTo m (k + 1) = (if m.disp then 1 else 0) + aliveW (m.workers.take k) ∧ stepsTo m (k + 1) = stepsW (m.workers.take k) := by
  induction k with
  | zero =>
    simp only [aliveTo, stepsTo, placeOf_disp]
    split <;> simp [aliveW, stepsW, *]
  | succ k ih =>
    obtain ⟨h1, h2⟩ := ih (by omega)
    have hlt : k < m.workers.length := by omega
    rw [aliveTo, stepsTo, h1, h2, placeOf_worker hlt, List.take_succ_eq_append_getElem hlt]
    simp only [aliveW, stepsW, List.map_append, List.sum_append, List.map_cons, List.map_nil, List.sum_cons, List.sum_nil]
    constructor <;> omega
theorem to_all (m : Mach) : aliveTo m (m.workers.length + 2) = (if m.disp then 1 else 0) + aliveW m.workers + (if m.coll then 1 else 0) ∧ stepsTo m (m.workers.length + 2) = stepsW m.workers := by
  obtain ⟨h1, h2⟩ := to_workers m m.workers.length (Nat.le_refl _)
  rw [List.take_length] at h1 h2
  rw [aliveTo, stepsTo, h1, h2, placeOf_coll]
  cases m.coll <;> simp
theorem aliveW_mid (a b : List S99) (y : S59) : aliveW (a ++ ⟨y⟩ :: b) = aliveW a + (if y.f0 = 0 then 0 else 1) + aliveW b := by
  simp only [aliveW, List.map_append, List.map_cons, List.sum_append, List.sum_cons]; omega
theorem stepsW_mid (a b : List S99) (y : S59) : stepsW (a ++ ⟨y⟩ :: b) = stepsW a + y.f2 + stepsW b := by
  simp only [stepsW, List.map_append, List.map_cons, List.sum_append, List.sum_cons]; omega
/-- The measure, in the machine's own terms. -/
theorem measOf_eq (m : Mach) : measOf m = ⟨und m, m.jobs.length - m.judged, m.sent.length + m.given.length, (if m.disp then 1 else 0) + aliveW m.workers + (if m.coll then 1 else 0), stepsW m.workers⟩ := by
  unfold measOf
  rw [(to_all m).1, (to_all m).2]
def lessM (a b : Meas) : Prop := a.u < b.u ∨ (a.u = b.u ∧ (a.j < b.j ∨ (a.j = b.j ∧ (a.s < b.s ∨ (a.s = b.s ∧ (a.a < b.a ∨ (a.a = b.a ∧ a.l < b.l)))))))
theorem kind_less {m m' : Mach} {x : S64} {e : Evt} (hO : Ok m) (hk : Kind m x e m') : lessM (measOf m') (measOf m) := by
  rw [measOf_eq, measOf_eq]
  unfold lessM
  cases hk with
  | close h0 h1 hd hu => simp only [hd, und]; simp; omega
  | drop h0 h1 hs hd hu =>
    left
    have h2 := und_pos hO hu
    have h3 := und_eq h2.1
    show und { m with dropped := true, picks := m.picks + 1 } < und m
    have h4 : und { m with dropped := true, picks := m.picks + 1 } = 0 := by simp [und]
    omega
  | send h0 h1 hd hu hl =>
    left
    have h2 := und_pos hO hu
    have h3 := und_eq h2.1
    show und { m with sent := m.sent ++ [m.next], next := m.next + 1, picks := m.picks + 1 } < und m
    have h4 : und { m with sent := m.sent ++ [m.next], next := m.next + 1, picks := m.picks + 1 } = m.jobs.length - (m.next + 1) := by simp [und, h2.1]
    omega
  | cancel h0 h1 hs hc => simp only [hc, und]; simp; omega
  | full h0 h1 hc hg => simp only [hc, und]; simp; omega
  | got q rest h0 h1 hc hg hv =>
    refine .inr ⟨rfl, .inr ⟨rfl, .inl ?_⟩⟩
    simp only [hv, List.length_cons]
    omega
  | quit a b y hw h0 h1 hs hk =>
    refine .inr ⟨rfl, .inr ⟨rfl, .inr ⟨rfl, .inl ?_⟩⟩⟩
    simp only [hw, aliveW_mid]
    rw [if_neg hk]
    simp
    omega
  | step a b k1 k2 hw h0 h1 hk =>
    refine .inr ⟨rfl, .inr ⟨rfl, .inr ⟨rfl, .inr ⟨?_, ?_⟩⟩⟩⟩
    · simp only [hw, aliveW_mid]; try simp
    · simp only [hw, stepsW_mid]; omega
  | gave a b k1 hw h0 h1 hl =>
    refine .inr ⟨rfl, .inl ?_⟩
    simp only []
    omega
  | left a b hw h0 h1 hs hd =>
    refine .inr ⟨rfl, .inr ⟨rfl, .inr ⟨rfl, .inl ?_⟩⟩⟩
    simp only [hw, aliveW_mid]
    simp
    omega
  | took a b q rest hw h0 h1 hq =>
    refine .inr ⟨rfl, .inr ⟨rfl, .inl ?_⟩⟩
    simp only [hq, List.length_cons]
    omega
theorem aliveW_nonneg (ws : List S99) : 0 ≤ aliveW ws := by
  induction ws with
  | nil => simp [aliveW]
  | cons x ws ih =>
    simp only [aliveW, List.map_cons, List.sum_cons] at ih ⊢
    split <;> omega
theorem stepsW_nonneg {ws : List S99} (h : ∀ x ∈ ws, 0 ≤ x.f0.f2) : 0 ≤ stepsW ws := by
  induction ws with
  | nil => simp [stepsW]
  | cons x ws ih =>
    have h1 := ih (fun y hy => h y (List.mem_cons_of_mem _ hy))
    have h2 := h x List.mem_cons_self
    simp only [stepsW, List.map_cons, List.sum_cons] at h1 ⊢
    omega
theorem meas_nonneg {m : Mach} (hI : Inv m) : 0 ≤ (measOf m).u ∧ 0 ≤ (measOf m).j ∧ 0 ≤ (measOf m).s ∧ 0 ≤ (measOf m).a ∧ 0 ≤ (measOf m).l := by
  have hO := hI.ok
  have h1 := hO.nx
  have h2 := ct_of hO
  have h3 := working_le m.workers
  have h4 := aliveW_nonneg m.workers
  have h5 := stepsW_nonneg (ws := m.workers) (fun x hx => by have := hO.ws x hx; omega)
  rw [measOf_eq]
  refine ⟨?_, ?_, ?_, ?_, h5⟩
  · show 0 ≤ und m
    unfold und
    split <;> omega
  · simp only []; omega
  · simp only []; omega
  · simp only []
    split <;> split <;> omega
theorem done_facts {m : Mach} (hO : Ok m) (hd : doneOf m = true) : m.disp = false ∧ m.coll = false ∧ ∀ x ∈ m.workers, x.f0 = ⟨0, 0, 0⟩ := by
  have h : m.disp = false ∧ m.coll = false ∧ anyUp m.workers = false := by
    unfold doneOf at hd
    simp only [Bool.and_eq_true, Bool.not_eq_true'] at hd
    exact ⟨hd.1.1, hd.1.2, hd.2⟩
  refine ⟨h.1, h.2.1, fun x hx => ?_⟩
  have h0 := down_all h.2.2 x hx
  have h1 := hO.ws x hx
  obtain ⟨⟨a, b, c⟩⟩ := x
  simp only [] at h0 h1 ⊢
  subst h0
  rcases h1 with h1 | ⟨_, rfl, rfl⟩
  · exact absurd h1.1 (by decide)
  · rfl
theorem done_meas {m : Mach} (hO : Ok m) (hd : doneOf m = true) : (measOf m).a = 0 ∧ (measOf m).l = 0 := by
  obtain ⟨h1, h2, h3⟩ := done_facts hO hd
  have h4 : ∀ ws : List S99, (∀ x ∈ ws, x.f0 = ⟨0, 0, 0⟩) → aliveW ws = 0 ∧ stepsW ws = 0 := by
    intro ws
    induction ws with
    | nil => intro _; simp [aliveW, stepsW]
    | cons x ws ih =>
      intro h
      have h5 := ih (fun y hy => h y (List.mem_cons_of_mem _ hy))
      have h6 := h x List.mem_cons_self
      simp only [aliveW, stepsW, List.map_cons, List.sum_cons, h6] at h5 ⊢
      simpa using h5
  rw [measOf_eq]
  simp only [h1, h2]
  simpa using h4 m.workers h3
theorem done_place {m : Mach} (hO : Ok m) (hd : doneOf m = true) (p : Int) : placeOf m p = ⟨0, 0, 0⟩ := by
  obtain ⟨h1, h2, h3⟩ := done_facts hO hd
  unfold placeOf
  rw [h1, h2]
  split
  · rfl
  · split
    · rfl
    · split
      · rfl
      · have hlt : (p - 1).toNat < m.workers.length := by omega
        unfold wk rd_T99
        rw [List.getD_eq_getElem?_getD, List.getElem?_eq_getElem hlt]
        exact h3 _ (List.getElem_mem hlt)
end Go.Proofs.Ythcchpbidbbiaaa.Sc
namespace Go.Proofs.Ythcchpbidbbiaaa.Sc
open Go.RowKit Go.Proofs.YthcchpbidbbiaaaW.PrintWords Go.Proofs.YthcchpbidbbiaaaW.PrintLast Go.Proofs.YthcchpbidbbiaaaW.PrintMore Go.Proofs.Ythcchpbidbbiaaa.PSchedSide
set_option linter.unusedVariables false
set_option linter.unusedSimpArgs false
/-- In W the machine m lies at g; all that it may write is new since w0, and none of N. -/
structure Run (w0 W : World) (N : Nat → Prop) (g : Nat) (m : Mach) : Prop where
  out : ∃ s, IsM W g s m ∧ ∀ k, Foot g s k ∨ some k = s.J.ownBlock → w0.heap.size ≤ k ∧ ¬ N k
  nlt : ∀ k, N k → w0.heap.size ≤ k ∧ k < W.heap.size
  bel : Below w0.heap.size w0 W
  inv : Inv m
section
variable {w0 W W' : World} {N : Nat → Prop} {g : Nat} {m m' : Mach}
theorem Run.pass (h : Run w0 W N g m) (hb : Below W.heap.size W W') : Run w0 W' N g m := by
  obtain ⟨s, hI, hF⟩ := h.out
  exact ⟨⟨s, hI.below hb, hF⟩, fun k hk => ⟨(h.nlt k hk).1, Nat.lt_of_lt_of_le (h.nlt k hk).2 hb.size⟩, h.bel.trans (hb.mono h.bel.size), h.inv⟩
theorem foot_below {s : Sh} (hI : IsM W g s m) : ∀ k, Foot g s k ∨ some k = s.J.ownBlock → k < W.heap.size := by
  rintro k (hk | hk)
  · exact hI.foot_lt k hk
  · exact hI.jobs.lt k hk
/-- New blocks are the owner's. -/
theorem Run.add (h : Run w0 W N g m) (hb : Below W.heap.size W W') {M : Nat → Prop} (hM : ∀ k, M k → W.heap.size ≤ k ∧ k < W'.heap.size) : Run w0 W' (fun k => N k ∨ M k) g m := by
  obtain ⟨s, hI, hF⟩ := h.out
  have h1 := h.pass hb
  refine ⟨⟨s, hI.below hb, fun k hk => ⟨(hF k hk).1, ?_⟩⟩, ?_, h1.bel, h.inv⟩
  · rintro (hn | hn)
    · exact (hF k hk).2 hn
    · have := (hM k hn).1
      have := foot_below hI k hk
      omega
  · rintro k (hn | hn)
    · exact h1.nlt k hn
    · exact ⟨Nat.le_trans h.bel.size (hM k hn).1, (hM k hn).2⟩
theorem Run.less (h : Run w0 W N g m) {M : Nat → Prop} (hM : ∀ k, M k → N k) : Run w0 W M g m := by
  obtain ⟨s, hI, hF⟩ := h.out
  exact ⟨⟨s, hI, fun k hk => ⟨(hF k hk).1, fun hn => (hF k hk).2 (hM k hn)⟩⟩, fun k hk => h.nlt k (hM k hk), h.bel, h.inv⟩
/-- The owner writes its own blocks. -/
theorem Run.write (h : Run w0 W N g m) (hk : Kept W W' N) (ho : W'.os = W.os) (ht : W'.tape = W.tape) (hp : W'.output = W.output) : Run w0 W' N g m := by
  obtain ⟨s, hI, hF⟩ := h.out
  refine ⟨⟨s, hI.kept hk (fun k hf => (hF k hf).2), hF⟩, fun k hn => ⟨(h.nlt k hn).1, Nat.lt_of_lt_of_le (h.nlt k hn).2 hk.1⟩, ⟨ho.trans h.bel.os, ht.trans h.bel.tape, hp.trans h.bel.output, Nat.le_trans h.bel.size hk.1, fun k hlt => ?_⟩, h.inv⟩
  rw [hk.2 k (Nat.lt_of_lt_of_le hlt h.bel.size) (fun hn => by have := (h.nlt k hn).1; omega)]
  exact h.bel.block k hlt
theorem Run.set (h : Run w0 W N g m) {p : Addr} (hp : N p.block) (v : Value) : Run w0 (W.setCell p v) N g m := h.write (Kept.setCell (Kept.refl _ _) (.inl hp) v) rfl rfl rfl
/-- What a move leaves. -/
def Held (W W' : World) (N : Nat → Prop) : Prop := W.heap.size ≤ W'.heap.size ∧ ∀ k, N k → W'.heap[k]? = W.heap[k]?
theorem Held.blk {k : Nat} {o : Obj} (h : Held W W' N) (hn : N k) (hk : W.heap[k]? = some o) : W'.heap[k]? = some o := (h.2 k hn).trans hk
theorem moved_held {s : Sh} (hn : ∀ k, N k → k < W.heap.size) (hF : ∀ k, Foot g s k → ¬ N k) (hM : Moved W g s m' W') : Held W W' N :=
  ⟨hM.kept.1, fun k hk => hM.kept.2 k (hn k hk) (fun hf => hF k hf hk)⟩
theorem Run.moved {s : Sh} (h : Run w0 W N g m) (hI : IsM W g s m) (hF : ∀ k, Foot g s k ∨ some k = s.J.ownBlock → w0.heap.size ≤ k ∧ ¬ N k) (hM : Moved W g s m' W') (hinv : Inv m') : Run w0 W' N g m' ∧ Held W W' N := by
  obtain ⟨⟨s', hI', hJ, hF'⟩, hk, ho, ht, hp⟩ := hM
  refine ⟨⟨⟨s', hI', ?_⟩, fun k hn => ⟨(h.nlt k hn).1, Nat.lt_of_lt_of_le (h.nlt k hn).2 hk.1⟩, ⟨ho.trans h.bel.os, ht.trans h.bel.tape, hp.trans h.bel.output, Nat.le_trans h.bel.size hk.1, fun k hlt => ?_⟩, hinv⟩, hk.1, fun k hn => hk.2 k (h.nlt k hn).2 (fun hf => (hF k (.inl hf)).2 hn)⟩
  · rintro k (hf | hj)
    · rcases hF' k hf with hf | hle
      · exact hF k (.inl hf)
      · exact ⟨Nat.le_trans h.bel.size hle, fun hn => by have := (h.nlt k hn).2; omega⟩
    · rw [hJ] at hj
      exact hF k (.inr hj)
  · rw [hk.2 k (Nat.lt_of_lt_of_le hlt h.bel.size) (fun hf => by have := (hF k (.inl hf)).1; omega)]
    exact h.bel.block k hlt
theorem newM_inv (pw pj pr : Int) (xs : List Int) (hp : PoolOk pw pj pr) (hn : xs.length ≤ 1000) (hj : ∀ j ∈ xs, 0 ≤ j ∧ j ≤ 1000) : Inv (newM pw pj pr xs pw.toNat) := by
  have hO := newM_ok pw pj pr xs hp hn hj
  obtain ⟨⟨h1, h2⟩, _⟩ := hp
  have hw : ∀ k, working (newW k) = 0 ∧ jobsW (newW k) = [] ∧ sumW (newW k) = k := by
    intro k
    induction k with
    | zero => exact ⟨rfl, rfl, rfl⟩
    | succ k ih =>
      have e : newW (k + 1) = ⟨⟨1, 0, 0⟩⟩ :: newW k := by simp [newW, List.replicate_succ]
      obtain ⟨h3, h4, h5⟩ := ih
      rw [e]
      refine ⟨by simpa [working] using h3, by simpa [jobsW] using h4, ?_⟩
      simp only [sumW, List.map_cons, List.sum_cons] at h5 ⊢
      have : wrem ⟨⟨1, 0, 0⟩⟩ = 1 := rfl
      omega
  obtain ⟨w1, w2, w3⟩ := hw pw.toNat
  have hal : alls (newM pw pj pr xs pw.toNat) = [] := by
    show [] ++ (jobsW (newW pw.toNat) ++ ([] ++ [])) = []
    rw [w2]; rfl
  have hs : ∀ l : List Int, (l.map (fun j => 4 + j)).sum = 4 * l.length + l.sum := by
    intro l
    induction l with
    | nil => rfl
    | cons x l ih => simp only [List.map_cons, List.sum_cons, List.length_cons, ih]; omega
  have hr : rem (newM pw pj pr xs pw.toNat) = boundOf (newM pw pj pr xs pw.toNat) := by
    show (1 : Int) + 1 + ((xs.drop (0 : Int).toNat).map (fun j => 4 + j)).sum + 0 + 0 + sumW (newW pw.toNat) = 4 * xs.length + (newW pw.toNat).length + 2 + xs.sum
    rw [w3]
    show (1 : Int) + 1 + (xs.map (fun j => 4 + j)).sum + 0 + 0 + (pw.toNat : Int) = 4 * xs.length + (newW pw.toNat).length + 2 + xs.sum
    rw [hs]
    have : (newW pw.toNat).length = pw.toNat := by simp [newW]
    rw [this]
    omega
  refine ⟨hO, Int.le_refl _, ?_, .inl ⟨rfl, rfl⟩, fun h => by simp [newM] at h, fun _ => ⟨rfl, ?_, ?_⟩, ?_, ?_, ?_, ?_, ?_, fun j hj => by simp [newM] at hj⟩
  · show 0 + rem (newM pw pj pr xs pw.toNat) ≤ _
    omega
  · show (0 : Int) + working (newW pw.toNat) + 0 = 0
    omega
  · show 0 + rem (newM pw pj pr xs pw.toNat) = _
    omega
  · rintro _ ⟨x, hx, h0⟩
    have hx' : x ∈ newW pw.toNat := hx
    have := List.eq_of_mem_replicate hx'
    subst this
    simp at h0
  · rw [hal]; exact List.nodup_nil
  · rw [hal]; intro j hj; simp at hj
  · refine ⟨?_, ?_, ?_⟩
    · show (0 : Int) ≤ xs.length; omega
    · show (0 : Int) ≤ pw; omega
    · show working (newW pw.toNat) ≤ 0; omega
  · intro x hx h2
    have hx' : x ∈ newW pw.toNat := hx
    have := List.eq_of_mem_replicate hx'
    subst this
    simp at h2
theorem jobs_of_rd {xs : List Int} (h : ∀ j : Nat, j < xs.length → JobOk (rd xs j)) : ∀ j ∈ xs, 0 ≤ j ∧ j ≤ 1000 := by
  intro j hj
  obtain ⟨i, hi, he⟩ := List.getElem_of_mem hj
  have := h i hi
  rw [rd_take hi, he] at this
  exact this
/-- A new machine. -/
theorem r_new (pw pj pr : Int) (A : Option Addr) (c : Nat) (xs : List Int) (hb : Below w0.heap.size w0 W) (hN : ∀ k, N k → w0.heap.size ≤ k ∧ k < W.heap.size) (hp : PoolOk pw pj pr) (hC : Kd.C (Kd.int .i64) W A xs.length xs) (hn : xs.length ≤ 1000) (ha : ∀ j : Nat, j < xs.length → JobOk (rd xs j)) :
    Calls Try.prog 15 #[poolV pw pj pr, .slice A xs.length c] W fun e w' => ∃ g, e = .returned (.tuple #[ptr g, .int .i64 0, .int .i64 0]) ∧ Run w0 w' N g (newM pw pj pr xs pw.toNat) ∧ Below W.heap.size W w' ∧ W.heap.size ≤ g := by
  refine (new_ok pw pj pr A c xs W hp hC hn ha).mono ?_
  rintro e w' ⟨g, s, rfl, hI, hb', hF⟩
  refine ⟨g, rfl, ⟨⟨s, hI, fun k hk => ⟨Nat.le_trans hb.size (hF k hk), fun hk' => ?_⟩⟩, fun k hk => ⟨(hN k hk).1, Nat.lt_of_lt_of_le (hN k hk).2 hb'.size⟩, hb.trans (hb'.mono hb.size), newM_inv pw pj pr xs hp hn (jobs_of_rd ha)⟩, hb', hF g (.inl (.inl rfl))⟩
  have h1 := hF k hk
  have h2 := (hN k hk').2
  omega
theorem r_take (h : Run w0 W N g m) (x : S64) (hx : x ∈ mvs m) : Calls Try.prog 30 #[ptr g, .agg #[.int .i64 x.f0, .int .i64 x.f1]] W fun e w' => e = .returned (.tuple #[(evOf m x).v, .int .i64 0]) ∧ Run w0 w' N g (step m x) ∧ Held W w' N := by
  obtain ⟨s, hI, hF⟩ := h.out
  refine (take_yes W g s m x _ hI h.inv.ok (inv_picks h.inv) hx (mvs_stop hx)).mono ?_
  rintro e w' ⟨rfl, hM⟩
  obtain ⟨h1, h2⟩ := h.moved hI hF hM (inv_step h.inv hx)
  exact ⟨rfl, h1, h2⟩
theorem r_take_no (h : Run w0 W N g m) (x : S64) (hx : x ∉ mvs m) : Calls Try.prog 30 #[ptr g, .agg #[.int .i64 x.f0, .int .i64 x.f1]] W fun e w' => e = .returned (.tuple #[ev 0 0 0 0, .int .i64 180]) ∧ Run w0 w' N g m ∧ Below W.heap.size W w' := by
  obtain ⟨s, hI, hF⟩ := h.out
  refine (take_no W g s m x hI h.inv.ok hx).mono ?_
  rintro e w' ⟨rfl, hb⟩
  exact ⟨rfl, h.pass hb, hb⟩
theorem r_pick (h : Run w0 W N g m) (k : Int) (hx : mvs m ≠ []) : Calls Try.prog 19 #[ptr g, .int .i64 k] W fun e w' => e = .returned (.tuple #[(evOf m (picked m k)).v, .int .i64 0]) ∧ Run w0 w' N g (step m (picked m k)) ∧ Held W w' N := by
  obtain ⟨s, hI, hF⟩ := h.out
  refine (pick_some W g s m k hI h.inv.ok (inv_picks h.inv) hx).mono ?_
  rintro e w' ⟨rfl, hM⟩
  obtain ⟨h1, h2⟩ := h.moved hI hF hM (inv_step h.inv (picked_mem k hx))
  exact ⟨rfl, h1, h2⟩
theorem r_pick_no (h : Run w0 W N g m) (k : Int) (hx : mvs m = []) : Calls Try.prog 19 #[ptr g, .int .i64 k] W fun e w' => e = .returned (.tuple #[ev 0 0 0 0, .int .i64 180]) ∧ Run w0 w' N g m ∧ Below W.heap.size W w' := by
  obtain ⟨s, hI, hF⟩ := h.out
  refine (pick_none W g s m k hI h.inv.ok hx).mono ?_
  rintro e w' ⟨rfl, hb⟩
  exact ⟨rfl, h.pass hb, hb⟩
theorem r_cancel (h : Run w0 W N g m) (hc : canStop m = true) : Calls Try.prog 18 #[ptr g] W fun e w' => e = .returned (.bool true) ∧ Run w0 w' N g { m with stopped := true } ∧ Held W w' N := by
  obtain ⟨s, hI, hF⟩ := h.out
  refine (cancel_yes W g s m hI h.inv.ok hc).mono ?_
  rintro e w' ⟨rfl, hM⟩
  have hs : m.stopped = false := by simp [canStop] at hc; exact hc.1
  obtain ⟨h1, h2⟩ := h.moved hI hF hM (inv_stop h.inv hs)
  exact ⟨rfl, h1, h2⟩
theorem r_cancel_no (h : Run w0 W N g m) (hc : canStop m = false) : Calls Try.prog 18 #[ptr g] W fun e w' => e = .returned (.bool false) ∧ Run w0 w' N g m ∧ Below W.heap.size W w' := by
  obtain ⟨s, hI, hF⟩ := h.out
  refine (cancel_no W g s m hI h.inv.ok hc).mono ?_
  rintro e w' ⟨rfl, hb⟩
  exact ⟨rfl, h.pass hb, hb⟩
theorem r_done (h : Run w0 W N g m) : Calls Try.prog 17 #[ptr g] W fun e w' => e = .returned (.bool (doneOf m)) ∧ Run w0 w' N g m ∧ Below W.heap.size W w' := by
  obtain ⟨s, hI, hF⟩ := h.out
  refine (done_calls W g s m hI h.inv.ok).mono ?_
  rintro e w' ⟨rfl, hb⟩
  exact ⟨rfl, h.pass hb, hb⟩
theorem r_place (h : Run w0 W N g m) (p : Int) (hp : -9223372036854775808 ≤ p ∧ p ≤ 9223372036854775807) : Calls Try.prog 29 #[ptr g, .int .i64 p] W fun e w' => e = .returned (.tuple #[pl (placeOf m p), .int .i64 (placeErr m p)]) ∧ Run w0 w' N g m ∧ Below W.heap.size W w' := by
  obtain ⟨s, hI, hF⟩ := h.out
  refine (place_calls W g s m p hp hI h.inv.ok).mono ?_
  rintro e w' ⟨rfl, hb⟩
  exact ⟨rfl, h.pass hb, hb⟩
theorem r_measure (h : Run w0 W N g m) : Calls Try.prog 32 #[ptr g] W fun e w' => e = .returned (measOf m).v ∧ Run w0 w' N g m ∧ Below W.heap.size W w' := by
  obtain ⟨s, hI, hF⟩ := h.out
  refine (measure_calls W g s m hI h.inv.ok).mono ?_
  rintro e w' ⟨rfl, hb⟩
  exact ⟨rfl, h.pass hb, hb⟩
theorem r_bound (h : Run w0 W N g m) : Calls Try.prog 33 #[ptr g] W fun e w' => e = .returned (.int .i64 (boundOf m)) ∧ Run w0 w' N g m ∧ Below W.heap.size W w' := by
  obtain ⟨s, hI, hF⟩ := h.out
  refine (bound_calls W g s m hI h.inv.ok).mono ?_
  rintro e w' ⟨rfl, hb⟩
  exact ⟨rfl, h.pass hb, hb⟩
theorem r_ready (h : Run w0 W N g m) : Calls Try.prog 34 #[ptr g] W fun e w' => ∃ A c, e = .returned (.slice A (mvs m).length (mvs m).length) ∧ Kd.R k64 64 w' W.heap.size (fun _ => True) (.slice A (mvs m).length c) (mvs m) ∧ Run w0 w' N g m ∧ Below W.heap.size W w' := by
  obtain ⟨s, hI, hF⟩ := h.out
  refine (ready_calls W g s m hI h.inv.ok).mono ?_
  rintro e w' ⟨A, c, rfl, hr, hb⟩
  exact ⟨A, c, rfl, hr, h.pass hb, hb⟩
theorem r_picks (h : Run w0 W N g m) : Calls Try.prog 36 #[ptr g] W fun e w' => e = .returned (.int .i64 m.picks) ∧ w' = W := by
  obtain ⟨s, hI, hF⟩ := h.out
  exact picks_calls W g s m hI
theorem r_peak (h : Run w0 W N g m) : Calls Try.prog 31 #[ptr g] W fun e w' => e = .returned (.int .i64 m.peak) ∧ w' = W := by
  obtain ⟨s, hI, hF⟩ := h.out
  exact peak_calls W g s m hI
theorem r_outcome (h : Run w0 W N g m) : Calls Try.prog 27 #[ptr g] W fun e w' => e = .returned (.int .i64 m.outcome) ∧ w' = W := by
  obtain ⟨s, hI, hF⟩ := h.out
  exact outcome_calls W g s m hI
theorem r_got (h : Run w0 W N g m) : Calls Try.prog 26 #[ptr g] W fun e w' => ∃ v, e = .returned v ∧ Kd.R (Kd.int .i64) 3 w' W.heap.size (fun _ => True) v m.got ∧ Run w0 w' N g m ∧ Below W.heap.size W w' := by
  obtain ⟨s, hI, hF⟩ := h.out
  refine (got_calls W g s m hI h.inv.ok).mono ?_
  rintro e w' ⟨v, rfl, hr, hb⟩
  exact ⟨v, rfl, hr, h.pass hb, hb⟩
end
end Go.Proofs.Ythcchpbidbbiaaa.Sc
namespace Go.Proofs.Ythcchpbidbbiaaa.Sc
open Go.RowKit Go.Proofs.YthcchpbidbbiaaaW.PrintWords Go.Proofs.YthcchpbidbbiaaaW.PrintLast Go.Proofs.YthcchpbidbbiaaaW.PrintMore Go.Proofs.Ythcchpbidbbiaaa.PSchedSide
set_option linter.unusedVariables false
set_option linter.unusedSimpArgs false
def m0 : Mach := newM 2 1 1 [1, 0] 2
def m1 : Mach := step m0 ⟨0, 0⟩
def m2 : Mach := step m1 ⟨2, 0⟩
theorem m0_mem : (⟨0, 0⟩ : S64) ∈ mvs m0 := mem_mvs.2 ⟨by decide, by decide, .inl ⟨rfl, by decide⟩⟩
theorem m1_mem : (⟨2, 0⟩ : S64) ∈ mvs m1 := mem_mvs.2 ⟨by decide, by decide, .inl ⟨rfl, by decide⟩⟩
theorem m0_ev : (evOf m0 ⟨0, 0⟩).v = .agg #[.int .i64 1, .int .i64 0, .int .i64 0, .int .i64 0] := rfl
theorem m1_ev : (evOf m1 ⟨2, 0⟩).v = .agg #[.int .i64 4, .int .i64 2, .int .i64 0, .int .i64 0] := rfl
theorem m2_bound : boundOf m2 = 13 := by decide
theorem m2_picks : m2.picks = 2 := by decide
theorem m2_peak : m2.peak = 1 := by decide
theorem lit_ints (w : World) (a b : Int) : Kd.C (Kd.int .i64) (w.alloc (.cells #[.int .i64 a, .int .i64 b] 3)) (some ⟨w.heap.size, 0, none⟩) [a, b].length [a, b] := by
  have h1 : (w.alloc (.cells #[.int .i64 a, .int .i64 b] 3)).ownsRow 0 3 1 (.slice (some ⟨w.heap.size, 0, none⟩) 2 2) 2 [.int .i64 a, .int .i64 b] := by
    have h2 := World.ownsRow_lit (base := 0) (e := 3) (size := 1) w #[.int .i64 a, .int .i64 b] 2 (Nat.zero_le _) (by simp [maxLen]) (by simp)
    simpa using h2
  have h3 : Kd.R (Kd.int .i64) 3 (w.alloc (.cells #[.int .i64 a, .int .i64 b] 3)) 0 (fun _ => True) (.slice (some ⟨w.heap.size, 0, none⟩) 2 2) [a, b] := Kd.R_of_own (enc := Value.int .i64) (h1 := fun _ => rfl) (xs := [a, b]) h1 (fun _ _ => trivial)
  exact (Kd.R_reads' h3).2.2
theorem aw_new (w : World) : Calls Try.prog 15 #[.agg #[.int .i64 2, .int .i64 1, .int .i64 1], .slice (some ⟨w.heap.size, 0, none⟩) 2 2] (w.alloc (.cells #[.int .i64 1, .int .i64 0] 3)) fun e w' => ∃ g, e = .returned (.tuple #[ptr g, .int .i64 0, .int .i64 0]) ∧ Run w w' (fun _ => False) g m0 ∧ Below (w.alloc (.cells #[.int .i64 1, .int .i64 0] 3)).heap.size (w.alloc (.cells #[.int .i64 1, .int .i64 0] 3)) w' :=
  (r_new (w0 := w) (N := fun _ => False) 2 1 1 (some ⟨w.heap.size, 0, none⟩) 2 [1, 0] (below_alloc (Below.refl _ _) _) (fun _ h => h.elim) (by unfold PoolOk; omega) (lit_ints w 1 0) (by decide) (fun j hj => by
    match j, hj with
    | 0, _ => exact ⟨by decide, by decide⟩
    | 1, _ => exact ⟨by decide, by decide⟩)).mono (fun e w' ⟨g, he, hr, hb, _⟩ => ⟨g, he, hr, hb⟩)
set_option maxHeartbeats 8000000 in
set_option maxRecDepth 1000000 in
theorem awake_calls (w : World) : Calls Try.prog 12 #[] w fun e w' => e = .returned (.bool true) ∧ Below w.heap.size w w' := by
  have HNEW := Aside0.mk (aw_new w)
  go_enter Try.func12, Try.ntmps12
  go_wp2_with (first
    | (go_at_call 15; (with_reducible refine HNEW.out.mono ?_); rintro e w1 ⟨g, rfl, hr, hb⟩; have HR := Aside0.mk hr; clear hr hb)
    | (go_at_call 30; (with_reducible refine (r_take HR.out (⟨0, 0⟩ : S64) m0_mem).mono ?_); rintro e w2 ⟨rfl, hr, _⟩; rw [m0_ev]; have HR1 := Aside0.mk (show Run w (w2.alloc (.cells #[.int .i64 1, .int .i64 0, .int .i64 0, .int .i64 0] 42)) (fun k => False ∨ k = w2.heap.size) g m1 from Run.add hr (below_alloc (Below.refl _ _) _) (fun k hk => ⟨by omega, by rw [hk]; simp⟩)); have HE1 := Aside0.mk (heap_alloc_new w2 (.cells #[.int .i64 1, .int .i64 0, .int .i64 0, .int .i64 0] 42)); clear HR hr)
    | (go_at_call 30; (with_reducible refine (r_take HR1.out (⟨2, 0⟩ : S64) m1_mem).mono ?_); rintro e w3 ⟨rfl, hr, hh⟩; rw [m1_ev]; have HE3 := Aside0.mk (hh.blk (.inr rfl) HE1.out); have HR3 := Aside0.mk (show Run w (w3.alloc (.cells #[.int .i64 4, .int .i64 2, .int .i64 0, .int .i64 0] 42)) (fun k => False ∨ k = w2.heap.size) g m2 from hr.pass (below_alloc (Below.refl _ _) _)); have k0 : w3.cell? ⟨w2.heap.size, 0, none⟩ = some (.int .i64 1) := (blk_cell HE3.out 0).trans rfl; have k1 : w3.cell? ⟨w2.heap.size, 1, none⟩ = some (.int .i64 0) := (blk_cell HE3.out 1).trans rfl; have k2 : w3.cell? ⟨w2.heap.size, 2, none⟩ = some (.int .i64 0) := (blk_cell HE3.out 2).trans rfl; have k3 : w3.cell? ⟨w2.heap.size, 3, none⟩ = some (.int .i64 0) := (blk_cell HE3.out 3).trans rfl; have lx := blk_lt HE3.out; clear HR1 hr hh)
    | (go_at_call 33; (with_reducible refine (r_bound HR3.out).mono ?_); rintro e w4 ⟨rfl, hr, hb⟩; rw [m2_bound]; have HR4 := Aside0.mk hr; clear hr hb)
    | (go_at_call 36; (with_reducible refine (r_picks HR4.out).mono ?_); rintro e w5 ⟨rfl, rfl⟩; rw [m2_picks])
    | (go_at_call 31; (with_reducible refine (r_peak HR4.out).mono ?_); rintro e w5 ⟨rfl, rfl⟩; rw [m2_peak]))
  go_ret
  exact ⟨rfl, HR4.out.bel⟩
end Go.Proofs.Ythcchpbidbbiaaa.Sc
