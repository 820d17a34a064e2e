/- What a worker would do. -/
import Derived.Test.YthcchpbidbbiaaaSca
namespace Go.Proofs.Ythcchpbidbbiaaa.Sc
open Go.RowKit Go.Proofs.YthcchpbidbbiaaaW.PrintWords Go.Proofs.YthcchpbidbbiaaaW.PrintLast Go.Proofs.YthcchpbidbbiaaaW.PrintMore Go.Proofs.Ythcchpbidbbiaaa.PSchedSide
set_option linter.unusedVariables false
set_option linter.unusedSimpArgs false
set_option maxHeartbeats 4000000 in
set_option maxRecDepth 1000000 in
theorem ends_calls (w : World) (k : Int) (cw cp cj : Value) :
    Calls Try.prog 80 #[.int .i64 k, cw, cp, cj] w fun e w' => e = .returned (.func (.func 81) #[] #[cw, ptr w.heap.size, cp, cj]) ∧ w' = w.alloc (.cells #[.int .i64 k] 3) := by
  have hmf := mf
  go_enter Try.func80, Try.ntmps80
  go_wp2
  go_ret
  exact ⟨by simp, rfl⟩
theorem drew_step {w w' : World} (h : Drawn0 w w') : Drawn0 w w'.drew := h.step 1
/-- The worker of the process p. -/
def wk (m : Mach) (p : Int) : S59 := (rd_T99 m.workers (p - 1)).f0
def jobOf (x : S59) : Int := if x.f0 = 2 then x.f1 else -1
def readyW (m : Mach) (p : Int) (stop : Bool) : Bool :=
  if (wk m p).f0 = 0 then false else if stop then true else if (wk m p).f0 = 2 then (if 0 < (wk m p).f2 then true else decide ((m.given.length : Int) < m.pr))
  else if m.sent.length = 0 then !m.disp else true
/-- b: m's cell, b + 1: the process, b + 2: the worker's address, b + 3: its job, b + 4: a closure's kind. -/
def funW (m : Mach) (p : Int) (stop : Bool) (b : Nat) : Value :=
  if (wk m p).f0 = 0 then .nilFunc else if stop then .func (.func 81) #[] #[ptr (b + 2), ptr (b + 4), ptr (b + 1), ptr (b + 3)]
  else if (wk m p).f0 = 2 then (if 0 < (wk m p).f2 then .func (.func 84) #[] #[ptr (b + 2), ptr (b + 1), ptr (b + 3), ptr b] else .func (.func 85) #[] #[ptr b, ptr (b + 3), ptr (b + 2), ptr (b + 1)])
  else if m.sent.length = 0 then .func (.func 81) #[] #[ptr (b + 2), ptr (b + 4), ptr (b + 1), ptr (b + 3)] else .func (.func 82) #[] #[ptr b, ptr (b + 1)]
def worldW (w : World) (g : Nat) (p : Int) (a : Addr) (j : Int) : World := (((w.alloc (.cells #[ptr g] 32)).alloc (.cells #[.int .i64 p] 3)).alloc (.cells #[.pointer (some a)] 119)).alloc (.cells #[.int .i64 j] 3)
def kindW (m : Mach) (p : Int) (stop : Bool) : Int := if stop then 8 else 7
def worldW' (m : Mach) (stop : Bool) (w : World) (g : Nat) (p : Int) (a : Addr) : World :=
  if ¬ (wk m p).f0 = 0 ∧ (stop = true ∨ (¬ (wk m p).f0 = 2 ∧ m.sent.length = 0)) then (worldW w g p a (jobOf (wk m p))).alloc (.cells #[.int .i64 (if stop then 8 else 7)] 3) else worldW w g p a (jobOf (wk m p))
set_option maxHeartbeats 8000000 in
set_option maxRecDepth 1000000 in
theorem works_ended (w : World) (g : Nat) (s : Sh) (m : Mach) (p : Int) (bW cW : Nat) (k1 k2 : Int) (hI : IsM w g s m) (hO : Ok m) (hp : 1 ≤ p) (hp' : p ≤ m.workers.length) (hs : s.W = .slice (some ⟨bW, 0, none⟩) m.workers.length cW) (hk : wk m p = ⟨0, k1, k2⟩) (stop : Bool) :
    Calls Try.prog 70 #[.pointer (some ⟨g, 0, none⟩), .int .i64 p, .bool stop] w fun e w' => e = .returned (.tuple #[funW m p stop w.heap.size, .bool (readyW m p stop)]) ∧ Drawn0 (worldW' m stop w g p ⟨bW, (p - 1).toNat * 3, none⟩) w' := by
  obtain ⟨AJ, cJ, AW, cW', AS, cS, AG, cG, AO, cO, rfl⟩ := hI.slices
  simp only [Value.slice.injEq] at hs
  obtain ⟨rfl, _, rfl⟩ := hs
  have hI1 := (hI.alloc (.cells #[ptr g] 32)).alloc (.cells #[.int .i64 p] 3)
  have hR := Aside0.mk (show readyW m p stop = false from by simp [readyW, hk])
  have hF := Aside0.mk (show funW m p stop w.heap.size = .nilFunc from by simp [funW, hk])
  have hW := Aside0.mk (show worldW' m stop w g p ⟨bW, (p - 1).toNat * 3, none⟩ = worldW w g p ⟨bW, (p - 1).toNat * 3, none⟩ (-1) from by simp [worldW', jobOf, hk])
  obtain ⟨j, hj⟩ : ∃ j, p - 1 = j := ⟨_, rfl⟩
  have b8 : (m.workers.length : Int) ≤ 8 := by have := hO.nw; have := hO.pw; omega
  have hjw : IntKind.i64.wrap (p - 1) = j := by rw [IntWalk.i64_in _ ⟨by omega, by omega⟩]; exact hj
  have hI2 := hI1.alloc (.cells #[.pointer none] 119)
  have k8 := hI2.cells.2.2.2.2.2.2.2.2.1
  have h8 := hI1.cells.2.2.2.2.2.2.2.2.1
  have hI3 := hI1.alloc (.cells #[.pointer (some ⟨bW, j.toNat * 3, none⟩)] 119)
  have hI40 := hI3.alloc (.cells #[.int .i64 (-1)] 3)
  obtain ⟨h00, h10, h20, h30, h40, h50, h60, h70, h80, h90, h100, h110, h120, h130, h140, h150, h160⟩ := hI40.cells
  have hx := at_T99 (Kd.R_reads' hI40.works).2.2 j (by omega) (by omega)
  obtain ⟨ad, ead, hx00, hx10, hx20⟩ := hx
  obtain rfl := Option.some.inj ead
  rw [add_plain] at hx00 hx10 hx20
  simp only [] at hx10 hx20
  rw [← hj] at hx00 hx10 hx20
  rw [show (rd_T99 m.workers (p - 1)).f0 = _ from hk] at hx00 hx10 hx20
  rw [hj] at hx00 hx10 hx20
  simp only [] at hx00 hx10 hx20
  clear hI40 ead
  have i0 := eq_true (show 0 ≤ j by omega)
  have i1 := eq_true (show j < (m.workers.length : Int) by omega)
  have HJ := Aside0.mk hj
  clear hI hI1 hI2 hI3 hO hk hj
  have hmf := mf
  go_enter Try.func70, Try.ntmps70
  go_wp2
  go_region
  go_wp2
  go_ret2
  exact ⟨by rw [hR.out, hF.out]; simp, by rw [hW.out, HJ.out]; unfold worldW; repeat (first | (with_reducible exact Drawn0.refl _) | refine Drawn0.step ?_ _)⟩
set_option maxHeartbeats 8000000 in
set_option maxRecDepth 1000000 in
theorem works_quit1 (w : World) (g : Nat) (s : Sh) (m : Mach) (p : Int) (bW cW : Nat) (k1 k2 : Int) (hI : IsM w g s m) (hO : Ok m) (hp : 1 ≤ p) (hp' : p ≤ m.workers.length) (hs : s.W = .slice (some ⟨bW, 0, none⟩) m.workers.length cW) (hk : wk m p = ⟨1, k1, k2⟩) :
    Calls Try.prog 70 #[.pointer (some ⟨g, 0, none⟩), .int .i64 p, .bool true] w fun e w' => e = .returned (.tuple #[funW m p true w.heap.size, .bool (readyW m p true)]) ∧ Drawn0 (worldW' m true w g p ⟨bW, (p - 1).toNat * 3, none⟩) w' := by
  obtain ⟨AJ, cJ, AW, cW', AS, cS, AG, cG, AO, cO, rfl⟩ := hI.slices
  simp only [Value.slice.injEq] at hs
  obtain ⟨rfl, _, rfl⟩ := hs
  have hI1 := (hI.alloc (.cells #[ptr g] 32)).alloc (.cells #[.int .i64 p] 3)
  have hR := Aside0.mk (show readyW m p true = true from by simp [readyW, hk])
  have hF := Aside0.mk (show funW m p true w.heap.size = .func (.func 81) #[] #[ptr (w.heap.size + 2), ptr (w.heap.size + 4), ptr (w.heap.size + 1), ptr (w.heap.size + 3)] from by simp [funW, hk])
  have hW := Aside0.mk (show worldW' m true w g p ⟨bW, (p - 1).toNat * 3, none⟩ = (worldW w g p ⟨bW, (p - 1).toNat * 3, none⟩ (-1)).alloc (.cells #[.int .i64 8] 3) from by simp [worldW', jobOf, hk])
  obtain ⟨j, hj⟩ : ∃ j, p - 1 = j := ⟨_, rfl⟩
  have b8 : (m.workers.length : Int) ≤ 8 := by have := hO.nw; have := hO.pw; omega
  have hjw : IntKind.i64.wrap (p - 1) = j := by rw [IntWalk.i64_in _ ⟨by omega, by omega⟩]; exact hj
  have hI2 := hI1.alloc (.cells #[.pointer none] 119)
  have k8 := hI2.cells.2.2.2.2.2.2.2.2.1
  have h8 := hI1.cells.2.2.2.2.2.2.2.2.1
  have hI3 := hI1.alloc (.cells #[.pointer (some ⟨bW, j.toNat * 3, none⟩)] 119)
  have hI40 := hI3.alloc (.cells #[.int .i64 (-1)] 3)
  obtain ⟨h00, h10, h20, h30, h40, h50, h60, h70, h80, h90, h100, h110, h120, h130, h140, h150, h160⟩ := hI40.cells
  have hx := at_T99 (Kd.R_reads' hI40.works).2.2 j (by omega) (by omega)
  obtain ⟨ad, ead, hx00, hx10, hx20⟩ := hx
  obtain rfl := Option.some.inj ead
  rw [add_plain] at hx00 hx10 hx20
  simp only [] at hx10 hx20
  rw [← hj] at hx00 hx10 hx20
  rw [show (rd_T99 m.workers (p - 1)).f0 = _ from hk] at hx00 hx10 hx20
  rw [hj] at hx00 hx10 hx20
  simp only [] at hx00 hx10 hx20
  clear hI40 ead
  have i0 := eq_true (show 0 ≤ j by omega)
  have i1 := eq_true (show j < (m.workers.length : Int) by omega)
  have HJ := Aside0.mk hj
  clear hI hI1 hI2 hI3 hO hk hj
  have hmf := mf
  go_enter Try.func70, Try.ntmps70
  go_wp2
  go_region
  go_wp2_with (first | (go_at_call 80; (with_reducible refine (ends_calls _ 8 _ _ _).mono ?_); rintro e w2 ⟨rfl, rfl⟩))
  go_ret2
  exact ⟨by rw [hR.out, hF.out]; simp, by rw [hW.out, HJ.out]; unfold worldW; exact ⟨_, rfl⟩⟩
set_option maxHeartbeats 8000000 in
set_option maxRecDepth 1000000 in
theorem works_quit2 (w : World) (g : Nat) (s : Sh) (m : Mach) (p : Int) (bW cW : Nat) (k1 k2 : Int) (hI : IsM w g s m) (hO : Ok m) (hp : 1 ≤ p) (hp' : p ≤ m.workers.length) (hs : s.W = .slice (some ⟨bW, 0, none⟩) m.workers.length cW) (hk : wk m p = ⟨2, k1, k2⟩) :
    Calls Try.prog 70 #[.pointer (some ⟨g, 0, none⟩), .int .i64 p, .bool true] w fun e w' => e = .returned (.tuple #[funW m p true w.heap.size, .bool (readyW m p true)]) ∧ Drawn0 (worldW' m true w g p ⟨bW, (p - 1).toNat * 3, none⟩) w' := by
  obtain ⟨AJ, cJ, AW, cW', AS, cS, AG, cG, AO, cO, rfl⟩ := hI.slices
  simp only [Value.slice.injEq] at hs
  obtain ⟨rfl, _, rfl⟩ := hs
  have hI1 := (hI.alloc (.cells #[ptr g] 32)).alloc (.cells #[.int .i64 p] 3)
  have hR := Aside0.mk (show readyW m p true = true from by simp [readyW, hk])
  have hF := Aside0.mk (show funW m p true w.heap.size = .func (.func 81) #[] #[ptr (w.heap.size + 2), ptr (w.heap.size + 4), ptr (w.heap.size + 1), ptr (w.heap.size + 3)] from by simp [funW, hk])
  have hW := Aside0.mk (show worldW' m true w g p ⟨bW, (p - 1).toNat * 3, none⟩ = (worldW w g p ⟨bW, (p - 1).toNat * 3, none⟩ k1).alloc (.cells #[.int .i64 8] 3) from by simp [worldW', jobOf, hk])
  obtain ⟨j, hj⟩ : ∃ j, p - 1 = j := ⟨_, rfl⟩
  have b8 : (m.workers.length : Int) ≤ 8 := by have := hO.nw; have := hO.pw; omega
  have hjw : IntKind.i64.wrap (p - 1) = j := by rw [IntWalk.i64_in _ ⟨by omega, by omega⟩]; exact hj
  have hI2 := hI1.alloc (.cells #[.pointer none] 119)
  have k8 := hI2.cells.2.2.2.2.2.2.2.2.1
  have h8 := hI1.cells.2.2.2.2.2.2.2.2.1
  have hI3 := hI1.alloc (.cells #[.pointer (some ⟨bW, j.toNat * 3, none⟩)] 119)
  have hI40 := hI3.alloc (.cells #[.int .i64 (-1)] 3)
  obtain ⟨h00, h10, h20, h30, h40, h50, h60, h70, h80, h90, h100, h110, h120, h130, h140, h150, h160⟩ := hI40.cells
  have hx := at_T99 (Kd.R_reads' hI40.works).2.2 j (by omega) (by omega)
  obtain ⟨ad, ead, hx00, hx10, hx20⟩ := hx
  obtain rfl := Option.some.inj ead
  rw [add_plain] at hx00 hx10 hx20
  simp only [] at hx10 hx20
  rw [← hj] at hx00 hx10 hx20
  rw [show (rd_T99 m.workers (p - 1)).f0 = _ from hk] at hx00 hx10 hx20
  rw [hj] at hx00 hx10 hx20
  simp only [] at hx00 hx10 hx20
  clear hI40 ead
  have hI41 := hI3.alloc (.cells #[.int .i64 k1] 3)
  obtain ⟨h01, h11, h21, h31, h41, h51, h61, h71, h81, h91, h101, h111, h121, h131, h141, h151, h161⟩ := hI41.cells
  have hx := at_T99 (Kd.R_reads' hI41.works).2.2 j (by omega) (by omega)
  obtain ⟨ad, ead, hx01, hx11, hx21⟩ := hx
  obtain rfl := Option.some.inj ead
  rw [add_plain] at hx01 hx11 hx21
  simp only [] at hx11 hx21
  rw [← hj] at hx01 hx11 hx21
  rw [show (rd_T99 m.workers (p - 1)).f0 = _ from hk] at hx01 hx11 hx21
  rw [hj] at hx01 hx11 hx21
  simp only [] at hx01 hx11 hx21
  clear hI41 ead
  have i0 := eq_true (show 0 ≤ j by omega)
  have i1 := eq_true (show j < (m.workers.length : Int) by omega)
  have HJ := Aside0.mk hj
  clear hI hI1 hI2 hI3 hO hk hj
  have hmf := mf
  go_enter Try.func70, Try.ntmps70
  go_wp2
  go_region
  go_wp2_with (first | (go_at_call 80; (with_reducible refine (ends_calls _ 8 _ _ _).mono ?_); rintro e w2 ⟨rfl, rfl⟩))
  go_ret2
  exact ⟨by rw [hR.out, hF.out]; simp, by rw [hW.out, HJ.out]; unfold worldW; exact ⟨_, rfl⟩⟩
set_option maxHeartbeats 8000000 in
set_option maxRecDepth 1000000 in
theorem works_left (w : World) (g : Nat) (s : Sh) (m : Mach) (p : Int) (bW cW : Nat) (k1 k2 : Int) (hI : IsM w g s m) (hO : Ok m) (hp : 1 ≤ p) (hp' : p ≤ m.workers.length) (hs : s.W = .slice (some ⟨bW, 0, none⟩) m.workers.length cW) (hk : wk m p = ⟨1, k1, k2⟩) (hz : m.sent.length = 0) :
    Calls Try.prog 70 #[.pointer (some ⟨g, 0, none⟩), .int .i64 p, .bool false] w fun e w' => e = .returned (.tuple #[funW m p false w.heap.size, .bool (readyW m p false)]) ∧ Drawn0 (worldW' m false w g p ⟨bW, (p - 1).toNat * 3, none⟩) w' := by
  obtain ⟨AJ, cJ, AW, cW', AS, cS, AG, cG, AO, cO, rfl⟩ := hI.slices
  simp only [Value.slice.injEq] at hs
  obtain ⟨rfl, _, rfl⟩ := hs
  have hI1 := (hI.alloc (.cells #[ptr g] 32)).alloc (.cells #[.int .i64 p] 3)
  have hR := Aside0.mk (show readyW m p false = !m.disp from by simp [readyW, hk, hz])
  have hF := Aside0.mk (show funW m p false w.heap.size = .func (.func 81) #[] #[ptr (w.heap.size + 2), ptr (w.heap.size + 4), ptr (w.heap.size + 1), ptr (w.heap.size + 3)] from by simp [funW, hk, hz])
  have hW := Aside0.mk (show worldW' m false w g p ⟨bW, (p - 1).toNat * 3, none⟩ = (worldW w g p ⟨bW, (p - 1).toNat * 3, none⟩ (-1)).alloc (.cells #[.int .i64 7] 3) from by simp [worldW', jobOf, hk, hz])
  obtain ⟨j, hj⟩ : ∃ j, p - 1 = j := ⟨_, rfl⟩
  have b8 : (m.workers.length : Int) ≤ 8 := by have := hO.nw; have := hO.pw; omega
  have hjw : IntKind.i64.wrap (p - 1) = j := by rw [IntWalk.i64_in _ ⟨by omega, by omega⟩]; exact hj
  have hI2 := hI1.alloc (.cells #[.pointer none] 119)
  have k8 := hI2.cells.2.2.2.2.2.2.2.2.1
  have h8 := hI1.cells.2.2.2.2.2.2.2.2.1
  have hI3 := hI1.alloc (.cells #[.pointer (some ⟨bW, j.toNat * 3, none⟩)] 119)
  have hI40 := hI3.alloc (.cells #[.int .i64 (-1)] 3)
  obtain ⟨h00, h10, h20, h30, h40, h50, h60, h70, h80, h90, h100, h110, h120, h130, h140, h150, h160⟩ := hI40.cells
  have hx := at_T99 (Kd.R_reads' hI40.works).2.2 j (by omega) (by omega)
  obtain ⟨ad, ead, hx00, hx10, hx20⟩ := hx
  obtain rfl := Option.some.inj ead
  rw [add_plain] at hx00 hx10 hx20
  simp only [] at hx10 hx20
  rw [← hj] at hx00 hx10 hx20
  rw [show (rd_T99 m.workers (p - 1)).f0 = _ from hk] at hx00 hx10 hx20
  rw [hj] at hx00 hx10 hx20
  simp only [] at hx00 hx10 hx20
  clear hI40 ead
  have i0 := eq_true (show 0 ≤ j by omega)
  have i1 := eq_true (show j < (m.workers.length : Int) by omega)
  have HJ := Aside0.mk hj
  have z0 : ((m.sent.length : Int) == 0) = true := by simp [hz]
  have hI5 := (hI3.alloc (.cells #[.int .i64 (-1)] 3)).alloc (.cells #[.int .i64 7] 3)
  have l6 := hI5.cells.2.2.2.2.2.2.1
  clear hI5 hz
  clear hI hI1 hI2 hI3 hO hk hj
  have hmf := mf
  go_enter Try.func70, Try.ntmps70
  go_wp2
  go_region
  go_wp2
  go_region_with (go_at_call 80; (with_reducible refine (ends_calls _ 7 _ _ _).mono ?_); rintro e w2 ⟨rfl, rfl⟩)
  all_goals go_wp2
  all_goals go_ret2
  all_goals exact ⟨by rw [hR.out, hF.out]; simp [Act.put], by rw [hW.out, HJ.out]; unfold worldW; repeat (first | (with_reducible exact Drawn0.refl _) | refine drew_step ?_)⟩
set_option maxHeartbeats 8000000 in
set_option maxRecDepth 1000000 in
theorem works_take (w : World) (g : Nat) (s : Sh) (m : Mach) (p : Int) (bW cW : Nat) (k1 k2 : Int) (hI : IsM w g s m) (hO : Ok m) (hp : 1 ≤ p) (hp' : p ≤ m.workers.length) (hs : s.W = .slice (some ⟨bW, 0, none⟩) m.workers.length cW) (hk : wk m p = ⟨1, k1, k2⟩) (hz : 0 < m.sent.length) :
    Calls Try.prog 70 #[.pointer (some ⟨g, 0, none⟩), .int .i64 p, .bool false] w fun e w' => e = .returned (.tuple #[funW m p false w.heap.size, .bool (readyW m p false)]) ∧ Drawn0 (worldW' m false w g p ⟨bW, (p - 1).toNat * 3, none⟩) w' := by
  obtain ⟨AJ, cJ, AW, cW', AS, cS, AG, cG, AO, cO, rfl⟩ := hI.slices
  simp only [Value.slice.injEq] at hs
  obtain ⟨rfl, _, rfl⟩ := hs
  have hI1 := (hI.alloc (.cells #[ptr g] 32)).alloc (.cells #[.int .i64 p] 3)
  have hR := Aside0.mk (show readyW m p false = true from by simp [readyW, hk, Nat.pos_iff_ne_zero.mp hz])
  have hF := Aside0.mk (show funW m p false w.heap.size = .func (.func 82) #[] #[ptr w.heap.size, ptr (w.heap.size + 1)] from by simp [funW, hk, Nat.pos_iff_ne_zero.mp hz])
  have hW := Aside0.mk (show worldW' m false w g p ⟨bW, (p - 1).toNat * 3, none⟩ = worldW w g p ⟨bW, (p - 1).toNat * 3, none⟩ (-1) from by simp [worldW', jobOf, hk, Nat.pos_iff_ne_zero.mp hz])
  obtain ⟨j, hj⟩ : ∃ j, p - 1 = j := ⟨_, rfl⟩
  have b8 : (m.workers.length : Int) ≤ 8 := by have := hO.nw; have := hO.pw; omega
  have hjw : IntKind.i64.wrap (p - 1) = j := by rw [IntWalk.i64_in _ ⟨by omega, by omega⟩]; exact hj
  have hI2 := hI1.alloc (.cells #[.pointer none] 119)
  have k8 := hI2.cells.2.2.2.2.2.2.2.2.1
  have h8 := hI1.cells.2.2.2.2.2.2.2.2.1
  have hI3 := hI1.alloc (.cells #[.pointer (some ⟨bW, j.toNat * 3, none⟩)] 119)
  have hI40 := hI3.alloc (.cells #[.int .i64 (-1)] 3)
  obtain ⟨h00, h10, h20, h30, h40, h50, h60, h70, h80, h90, h100, h110, h120, h130, h140, h150, h160⟩ := hI40.cells
  have hx := at_T99 (Kd.R_reads' hI40.works).2.2 j (by omega) (by omega)
  obtain ⟨ad, ead, hx00, hx10, hx20⟩ := hx
  obtain rfl := Option.some.inj ead
  rw [add_plain] at hx00 hx10 hx20
  simp only [] at hx10 hx20
  rw [← hj] at hx00 hx10 hx20
  rw [show (rd_T99 m.workers (p - 1)).f0 = _ from hk] at hx00 hx10 hx20
  rw [hj] at hx00 hx10 hx20
  simp only [] at hx00 hx10 hx20
  clear hI40 ead
  have i0 := eq_true (show 0 ≤ j by omega)
  have i1 := eq_true (show j < (m.workers.length : Int) by omega)
  have HJ := Aside0.mk hj
  have z0 : ((m.sent.length : Int) == 0) = false := beq_eq_false_iff_ne.mpr (by omega)
  clear hz
  clear hI hI1 hI2 hI3 hO hk hj
  have hmf := mf
  go_enter Try.func70, Try.ntmps70
  go_wp2
  go_region
  go_wp2
  go_ret2
  exact ⟨by rw [hR.out, hF.out]; simp, by rw [hW.out, HJ.out]; unfold worldW; repeat (first | (with_reducible exact Drawn0.refl _) | refine Drawn0.step ?_ _)⟩
set_option maxHeartbeats 8000000 in
set_option maxRecDepth 1000000 in
theorem works_step (w : World) (g : Nat) (s : Sh) (m : Mach) (p : Int) (bW cW : Nat) (k1 k2 : Int) (hI : IsM w g s m) (hO : Ok m) (hp : 1 ≤ p) (hp' : p ≤ m.workers.length) (hs : s.W = .slice (some ⟨bW, 0, none⟩) m.workers.length cW) (hk : wk m p = ⟨2, k1, k2⟩) (h1 : 0 ≤ k1) (hz : 0 < k2) :
    Calls Try.prog 70 #[.pointer (some ⟨g, 0, none⟩), .int .i64 p, .bool false] w fun e w' => e = .returned (.tuple #[funW m p false w.heap.size, .bool (readyW m p false)]) ∧ Drawn0 (worldW' m false w g p ⟨bW, (p - 1).toNat * 3, none⟩) w' := by
  obtain ⟨AJ, cJ, AW, cW', AS, cS, AG, cG, AO, cO, rfl⟩ := hI.slices
  simp only [Value.slice.injEq] at hs
  obtain ⟨rfl, _, rfl⟩ := hs
  have hI1 := (hI.alloc (.cells #[ptr g] 32)).alloc (.cells #[.int .i64 p] 3)
  have hR := Aside0.mk (show readyW m p false = true from by simp [readyW, hk, hz])
  have hF := Aside0.mk (show funW m p false w.heap.size = .func (.func 84) #[] #[ptr (w.heap.size + 2), ptr (w.heap.size + 1), ptr (w.heap.size + 3), ptr w.heap.size] from by simp [funW, hk, hz])
  have hW := Aside0.mk (show worldW' m false w g p ⟨bW, (p - 1).toNat * 3, none⟩ = worldW w g p ⟨bW, (p - 1).toNat * 3, none⟩ k1 from by simp [worldW', jobOf, hk, hz])
  obtain ⟨j, hj⟩ : ∃ j, p - 1 = j := ⟨_, rfl⟩
  have b8 : (m.workers.length : Int) ≤ 8 := by have := hO.nw; have := hO.pw; omega
  have hjw : IntKind.i64.wrap (p - 1) = j := by rw [IntWalk.i64_in _ ⟨by omega, by omega⟩]; exact hj
  have hI2 := hI1.alloc (.cells #[.pointer none] 119)
  have k8 := hI2.cells.2.2.2.2.2.2.2.2.1
  have h8 := hI1.cells.2.2.2.2.2.2.2.2.1
  have hI3 := hI1.alloc (.cells #[.pointer (some ⟨bW, j.toNat * 3, none⟩)] 119)
  have hI40 := hI3.alloc (.cells #[.int .i64 (-1)] 3)
  obtain ⟨h00, h10, h20, h30, h40, h50, h60, h70, h80, h90, h100, h110, h120, h130, h140, h150, h160⟩ := hI40.cells
  have hx := at_T99 (Kd.R_reads' hI40.works).2.2 j (by omega) (by omega)
  obtain ⟨ad, ead, hx00, hx10, hx20⟩ := hx
  obtain rfl := Option.some.inj ead
  rw [add_plain] at hx00 hx10 hx20
  simp only [] at hx10 hx20
  rw [← hj] at hx00 hx10 hx20
  rw [show (rd_T99 m.workers (p - 1)).f0 = _ from hk] at hx00 hx10 hx20
  rw [hj] at hx00 hx10 hx20
  simp only [] at hx00 hx10 hx20
  clear hI40 ead
  have hI41 := hI3.alloc (.cells #[.int .i64 k1] 3)
  obtain ⟨h01, h11, h21, h31, h41, h51, h61, h71, h81, h91, h101, h111, h121, h131, h141, h151, h161⟩ := hI41.cells
  have hx := at_T99 (Kd.R_reads' hI41.works).2.2 j (by omega) (by omega)
  obtain ⟨ad, ead, hx01, hx11, hx21⟩ := hx
  obtain rfl := Option.some.inj ead
  rw [add_plain] at hx01 hx11 hx21
  simp only [] at hx11 hx21
  rw [← hj] at hx01 hx11 hx21
  rw [show (rd_T99 m.workers (p - 1)).f0 = _ from hk] at hx01 hx11 hx21
  rw [hj] at hx01 hx11 hx21
  simp only [] at hx01 hx11 hx21
  clear hI41 ead
  have i0 := eq_true (show 0 ≤ j by omega)
  have i1 := eq_true (show j < (m.workers.length : Int) by omega)
  have HJ := Aside0.mk hj
  have z0 : decide (k1 < 0) = false := decide_eq_false (by omega)
  have z1 : decide (0 < k2) = true := decide_eq_true hz
  clear h1 hz
  clear hI hI1 hI2 hI3 hO hk hj
  have hmf := mf
  go_enter Try.func70, Try.ntmps70
  go_wp2
  go_region
  go_wp2
  go_ret2
  exact ⟨by rw [hR.out, hF.out]; simp, by rw [hW.out, HJ.out]; unfold worldW; repeat (first | (with_reducible exact Drawn0.refl _) | refine Drawn0.step ?_ _)⟩
set_option maxHeartbeats 8000000 in
set_option maxRecDepth 1000000 in
theorem works_gave (w : World) (g : Nat) (s : Sh) (m : Mach) (p : Int) (bW cW : Nat) (k1 k2 : Int) (hI : IsM w g s m) (hO : Ok m) (hp : 1 ≤ p) (hp' : p ≤ m.workers.length) (hs : s.W = .slice (some ⟨bW, 0, none⟩) m.workers.length cW) (hk : wk m p = ⟨2, k1, k2⟩) (h1 : 0 ≤ k1) (hz : k2 = 0) :
    Calls Try.prog 70 #[.pointer (some ⟨g, 0, none⟩), .int .i64 p, .bool false] w fun e w' => e = .returned (.tuple #[funW m p false w.heap.size, .bool (readyW m p false)]) ∧ Drawn0 (worldW' m false w g p ⟨bW, (p - 1).toNat * 3, none⟩) w' := by
  obtain ⟨AJ, cJ, AW, cW', AS, cS, AG, cG, AO, cO, rfl⟩ := hI.slices
  simp only [Value.slice.injEq] at hs
  obtain ⟨rfl, _, rfl⟩ := hs
  subst hz
  have hI1 := (hI.alloc (.cells #[ptr g] 32)).alloc (.cells #[.int .i64 p] 3)
  have hR := Aside0.mk (show readyW m p false = decide ((m.given.length : Int) < m.pr) from by simp [readyW, hk])
  have hF := Aside0.mk (show funW m p false w.heap.size = .func (.func 85) #[] #[ptr w.heap.size, ptr (w.heap.size + 3), ptr (w.heap.size + 2), ptr (w.heap.size + 1)] from by simp [funW, hk])
  have hW := Aside0.mk (show worldW' m false w g p ⟨bW, (p - 1).toNat * 3, none⟩ = worldW w g p ⟨bW, (p - 1).toNat * 3, none⟩ k1 from by simp [worldW', jobOf, hk])
  obtain ⟨j, hj⟩ : ∃ j, p - 1 = j := ⟨_, rfl⟩
  have b8 : (m.workers.length : Int) ≤ 8 := by have := hO.nw; have := hO.pw; omega
  have hjw : IntKind.i64.wrap (p - 1) = j := by rw [IntWalk.i64_in _ ⟨by omega, by omega⟩]; exact hj
  have hI2 := hI1.alloc (.cells #[.pointer none] 119)
  have k8 := hI2.cells.2.2.2.2.2.2.2.2.1
  have h8 := hI1.cells.2.2.2.2.2.2.2.2.1
  have hI3 := hI1.alloc (.cells #[.pointer (some ⟨bW, j.toNat * 3, none⟩)] 119)
  have hI40 := hI3.alloc (.cells #[.int .i64 (-1)] 3)
  obtain ⟨h00, h10, h20, h30, h40, h50, h60, h70, h80, h90, h100, h110, h120, h130, h140, h150, h160⟩ := hI40.cells
  have hx := at_T99 (Kd.R_reads' hI40.works).2.2 j (by omega) (by omega)
  obtain ⟨ad, ead, hx00, hx10, hx20⟩ := hx
  obtain rfl := Option.some.inj ead
  rw [add_plain] at hx00 hx10 hx20
  simp only [] at hx10 hx20
  rw [← hj] at hx00 hx10 hx20
  rw [show (rd_T99 m.workers (p - 1)).f0 = _ from hk] at hx00 hx10 hx20
  rw [hj] at hx00 hx10 hx20
  simp only [] at hx00 hx10 hx20
  clear hI40 ead
  have hI41 := hI3.alloc (.cells #[.int .i64 k1] 3)
  obtain ⟨h01, h11, h21, h31, h41, h51, h61, h71, h81, h91, h101, h111, h121, h131, h141, h151, h161⟩ := hI41.cells
  have hx := at_T99 (Kd.R_reads' hI41.works).2.2 j (by omega) (by omega)
  obtain ⟨ad, ead, hx01, hx11, hx21⟩ := hx
  obtain rfl := Option.some.inj ead
  rw [add_plain] at hx01 hx11 hx21
  simp only [] at hx11 hx21
  rw [← hj] at hx01 hx11 hx21
  rw [show (rd_T99 m.workers (p - 1)).f0 = _ from hk] at hx01 hx11 hx21
  rw [hj] at hx01 hx11 hx21
  simp only [] at hx01 hx11 hx21
  clear hI41 ead
  have i0 := eq_true (show 0 ≤ j by omega)
  have i1 := eq_true (show j < (m.workers.length : Int) by omega)
  have HJ := Aside0.mk hj
  have z0 : decide (k1 < 0) = false := decide_eq_false (by omega)
  clear h1
  clear hI hI1 hI2 hI3 hO hk hj
  have hmf := mf
  go_enter Try.func70, Try.ntmps70
  go_wp2
  go_region
  go_wp2
  go_quiet (fail)
  go_wp2
  go_ret2
  exact ⟨by rw [hR.out, hF.out]; simp, by rw [hW.out, HJ.out]; unfold worldW; repeat (first | (with_reducible exact Drawn0.refl _) | refine Drawn0.step ?_ _)⟩
end Go.Proofs.Ythcchpbidbbiaaa.Sc
