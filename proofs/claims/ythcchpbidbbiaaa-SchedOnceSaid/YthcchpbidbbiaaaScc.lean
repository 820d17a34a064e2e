/- The closures that do a move. -/
import Derived.Test.YthcchpbidbbiaaaScb
import Derived.Deep.RegionLaw
namespace Go.Proofs.Ythcchpbidbbiaaa.Sc
open Go.RowKit Go.Proofs.YthcchpbidbbiaaaW.PrintWords Go.Proofs.YthcchpbidbbiaaaW.PrintLast Go.Proofs.YthcchpbidbbiaaaW.PrintMore Go.Proofs.Ythcchpbidbbiaaa.PSchedSide
attribute [local go_sem] max2_int min2_int max_two min_two
set_option linter.unusedVariables false
set_option linter.unusedSimpArgs false
def ev (k p j st : Int) : Value := .agg #[.int .i64 k, .int .i64 p, .int .i64 j, .int .i64 st]
/-- From w to w': the machine is m' now, of what was there only its own may be other. -/
structure Moved (w : World) (g : Nat) (s : Sh) (m' : Mach) (w' : World) : Prop where
  mk ::
  out : ∃ s', IsM w' g s' m' ∧ s'.J = s.J ∧ (∀ k, Foot g s' k → Foot g s k ∨ w.heap.size ≤ k)
  kept : Kept w w' (Foot g s)
  os : w'.os = w.os
  tape : w'.tape = w.tape
  output : w'.output = w.output
theorem size_set (w : World) (a : Addr) (u : Value) : (w.setCell a u).heap.size = w.heap.size := by simp [World.setCell]
theorem new_at {w : World} {n : Nat} (o : Obj) (h : w.heap.size = n) : (w.alloc o).heap[n]? = some o := by subst h; exact heap_alloc_new w o
theorem Moved.of {w w' : World} {g : Nat} {s s' : Sh} {m' : Mach} (h : IsM w' g s' m') (hJ : s'.J = s.J) (hF : ∀ k, Foot g s' k → Foot g s k ∨ w.heap.size ≤ k) (hk : Kept w w' (Foot g s)) (h1 : w'.os = w.os) (h2 : w'.tape = w.tape) (h3 : w'.output = w.output) : Moved w g s m' w' := ⟨⟨s', h, hJ, hF⟩, hk, h1, h2, h3⟩
theorem kept_own {w W : World} {g : Nat} {s : Sh} (h : Kept w W (Foot g s)) (j : Nat) (u : Value) : Kept w (W.setCell ⟨g, j, none⟩ u) (Foot g s) := Kept.setCell h (.inl (.inl rfl)) u
set_option maxHeartbeats 4000000 in
set_option maxRecDepth 1000000 in
theorem do77 (w : World) (g : Nat) (s : Sh) (m : Mach) (c : Nat) (hI : IsM w g s m) (hc : w.heap[c]? = some (.cells #[ptr g] 32 (0, 0))) :
    Calls Try.prog 77 #[ptr c] w fun e w' => e = .returned (ev 3 0 (-1) 0) ∧ Moved w g s { m with disp := false } w' := by
  have hcc : w.cell? ⟨c, 0, none⟩ = some (.pointer (some ⟨g, 0, none⟩)) := (blk_cell hc 0).trans rfl
  have hlt := blk_lt hc
  have hg := hI.lt
  obtain ⟨AJ, cJ, AW, cW, AS, cS, AG, cG, AO, cO, rfl⟩ := hI.slices
  obtain ⟨h0, h1, h2, h3, h4, h5, h6, h7, h8, h9, h10, h11, h12, h13, h14, h15, h16⟩ := hI.cells
  have f6 := hI.free 6
  have HI := Aside0.mk hI
  clear hI
  go_enter Try.func77, Try.ntmps77
  go_wp2
  refine bodyPost_ret (results_cell_row rfl _ _ w.heap.size 42 #[.int .i64 3, .int .i64 0, .int .i64 (-1), .int .i64 0] (0, 0) _ rfl (new_at _ (size_set _ _ _)) Try.underlying42 rfl (by kernel_rfl)) rfl ?_
  exact ⟨rfl, .of ((HI.out.set 6 (.bool false) { m with disp := false } rfl rfl rfl rfl rfl rfl).alloc _) rfl (fun _ h => .inl h) ((kept_own (Kept.refl w _) 6 _).alloc _) rfl rfl rfl⟩
set_option maxHeartbeats 4000000 in
set_option maxRecDepth 1000000 in
theorem do78 (w : World) (g : Nat) (s : Sh) (m : Mach) (c : Nat) (hI : IsM w g s m) (hc : w.heap[c]? = some (.cells #[ptr g] 32 (0, 0))) :
    Calls Try.prog 78 #[ptr c] w fun e w' => e = .returned (ev 2 0 (-1) 0) ∧ Moved w g s { m with dropped := true } w' := by
  have hcc : w.cell? ⟨c, 0, none⟩ = some (.pointer (some ⟨g, 0, none⟩)) := (blk_cell hc 0).trans rfl
  have hlt := blk_lt hc
  have hg := hI.lt
  obtain ⟨AJ, cJ, AW, cW, AS, cS, AG, cG, AO, cO, rfl⟩ := hI.slices
  obtain ⟨h0, h1, h2, h3, h4, h5, h6, h7, h8, h9, h10, h11, h12, h13, h14, h15, h16⟩ := hI.cells
  have f5 := hI.free 5
  have HI := Aside0.mk hI
  clear hI
  go_enter Try.func78, Try.ntmps78
  go_wp2
  refine bodyPost_ret (results_cell_row rfl _ _ w.heap.size 42 #[.int .i64 2, .int .i64 0, .int .i64 (-1), .int .i64 0] (0, 0) _ rfl (new_at _ (size_set _ _ _)) Try.underlying42 rfl (by kernel_rfl)) rfl ?_
  exact ⟨rfl, .of ((HI.out.set 5 (.bool true) { m with dropped := true } rfl rfl rfl rfl rfl rfl).alloc _) rfl (fun _ h => .inl h) ((kept_own (Kept.refl w _) 5 _).alloc _) rfl rfl rfl⟩
set_option maxHeartbeats 4000000 in
set_option maxRecDepth 1000000 in
theorem do87 (w : World) (g : Nat) (s : Sh) (m : Mach) (o k p : Int) (co cm ck cp : Nat) (hI : IsM w g s m) (hco : w.heap[co]? = some (.cells #[.int .i64 o] 3 (0, 0))) (hcm : w.heap[cm]? = some (.cells #[ptr g] 32 (0, 0))) (hck : w.heap[ck]? = some (.cells #[.int .i64 k] 3 (0, 0))) (hcp : w.heap[cp]? = some (.cells #[.int .i64 p] 3 (0, 0))) :
    Calls Try.prog 87 #[ptr co, ptr cm, ptr ck, ptr cp] w fun e w' => e = .returned (ev k p (-1) 0) ∧ Moved w g s { m with coll := false, outcome := o } w' := by
  have e1 : w.cell? ⟨co, 0, none⟩ = some (.int .i64 o) := (blk_cell hco 0).trans rfl
  have e2 : w.cell? ⟨cm, 0, none⟩ = some (.pointer (some ⟨g, 0, none⟩)) := (blk_cell hcm 0).trans rfl
  have e3 : w.cell? ⟨ck, 0, none⟩ = some (.int .i64 k) := (blk_cell hck 0).trans rfl
  have e4 : w.cell? ⟨cp, 0, none⟩ = some (.int .i64 p) := (blk_cell hcp 0).trans rfl
  have n1 := blk_ne hI.blk hco (by decide)
  have n2 := blk_ne hI.blk hcm (by decide)
  have n3 := blk_ne hI.blk hck (by decide)
  have n4 := blk_ne hI.blk hcp (by decide)
  have l1 := blk_lt hco
  have l2 := blk_lt hcm
  have l3 := blk_lt hck
  have l4 := blk_lt hcp
  have hg := hI.lt
  obtain ⟨AJ, cJ, AW, cW, AS, cS, AG, cG, AO, cO, rfl⟩ := hI.slices
  obtain ⟨h0, h1, h2, h3, h4, h5, h6, h7, h8, h9, h10, h11, h12, h13, h14, h15, h16⟩ := hI.cells
  have f7 := hI.free 7
  have f14 := hI.free 14
  have HI := Aside0.mk hI
  clear hI
  go_enter Try.func87, Try.ntmps87
  go_wp2
  go_region
  go_wp2
  refine bodyPost_ret (results_cell_row rfl _ _ w.heap.size 42 #[.int .i64 k, .int .i64 p, .int .i64 (-1), .int .i64 0] (0, 0) _ rfl (new_at _ (by simp [size_set])) Try.underlying42 rfl (by kernel_rfl)) rfl ?_
  exact ⟨rfl, .of ((((HI.out.set 7 (.bool false) { m with coll := false } rfl rfl rfl rfl rfl rfl).set 14 (.int .i64 o) { m with coll := false, outcome := o } rfl rfl rfl rfl rfl rfl).alloc _).drew) rfl (fun _ h => .inl h) ((kept_own (kept_own (Kept.refl w _) 7 _) 14 _).alloc _).drew rfl rfl rfl⟩
/-- What an append to sent leaves, when it is stored. -/
theorem put_S {W w1 : World} {g : Nat} {s : Sh} {m : Mach} {v1 : Value} {xs : List Int} (hI : IsM W g s m) (ho : Kd.R (Kd.int .i64) 3 w1 0 (fun _ => True) v1 xs) (hg : W.grownBy w1 s.S.ownBlock) (hv : ∀ k, some k = v1.ownBlock → some k = s.S.ownBlock ∨ W.heap.size ≤ k) :
    w1.heap[g]? = some (.cells (cellsM s m) 97 (0, 0)) ∧ Moved W g s { m with sent := xs } (w1.setCell ⟨g, 9, none⟩ v1) ∧ IsM (w1.setCell ⟨g, 9, none⟩ v1) g { s with S := v1 } { m with sent := xs } ∧ (∀ k, Foot g { s with S := v1 } k → Foot g s k ∨ W.heap.size ≤ k) := by
  have hM := hI.putS (W1 := w1) (v := v1) (xs := xs) (fun k hk hne => hg.block k hk hne) (Own.of rfl ho) hv
  have hF : ∀ k, Foot g { s with S := v1 } k → Foot g s k ∨ W.heap.size ≤ k := by
    rintro k hk
    have hk' : k = g ∨ some k = s.W.ownBlock ∨ some k = s.S.ownBlock ∨ some k = s.G.ownBlock ∨ some k = s.O.ownBlock ∨ some k = v1.ownBlock := by
      rcases hk with h | h | h | h | h <;> (try dsimp only at h) <;> simp [h]
    rcases hk' with h | h | h | h | h | h
    · exact .inl (.inl h)
    · exact .inl (.inr (.inl h))
    · exact .inl (.inr (.inr (.inl h)))
    · exact .inl (.inr (.inr (.inr (.inl h))))
    · exact .inl (.inr (.inr (.inr (.inr h))))
    · rcases hv k h with h | h
      · exact .inl (by unfold Foot; simp [h])
      · exact .inr h
  have hk1 : Kept W w1 (Foot g s) := Kept.of_grown hg (Kept.refl W _) (fun k hk => .inl (by unfold Foot; simp [hk]))
  exact ⟨blk_grown hI.blk hg (fun e => ne_typed hI.sent hI.blk (by decide) g e rfl), .of hM rfl hF (kept_own hk1 9 _) hg.os hg.tape hg.output, hM, hF⟩
/-- The same behind an append. -/
theorem app_S {W w1 : World} {g : Nat} {s : Sh} {m : Mach} {v1 : Value} {xs : List Int} (hI : IsM W g s m) (ho : Kd.R (Kd.int .i64) 3 w1 0 (fun _ => True) v1 xs) (hg : W.grownBy w1 s.S.ownBlock) (hat : v1.ownBlock = s.S.ownBlock ∨ ∃ b, v1.ownBlock = some b ∧ W.heap.size ≤ b) :
    w1.heap[g]? = some (.cells (cellsM s m) 97 (0, 0)) ∧ Moved W g s { m with sent := xs } (w1.setCell ⟨g, 9, none⟩ v1) ∧ IsM (w1.setCell ⟨g, 9, none⟩ v1) g { s with S := v1 } { m with sent := xs } ∧ (∀ k, Foot g { s with S := v1 } k → Foot g s k ∨ W.heap.size ≤ k) := by
  have hv : ∀ k, some k = v1.ownBlock → some k = s.S.ownBlock ∨ W.heap.size ≤ k := by
    intro k hk
    rcases hat with h | ⟨b, hb, hle⟩
    · exact .inl (hk.trans h)
    · rw [hb] at hk; injection hk with hk; exact .inr (by omega)
  exact put_S hI ho hg hv
/-- What an append to given leaves, when it is stored. -/
theorem put_G {W w1 : World} {g : Nat} {s : Sh} {m : Mach} {v1 : Value} {xs : List Int} (hI : IsM W g s m) (ho : Kd.R (Kd.int .i64) 3 w1 0 (fun _ => True) v1 xs) (hg : W.grownBy w1 s.G.ownBlock) (hv : ∀ k, some k = v1.ownBlock → some k = s.G.ownBlock ∨ W.heap.size ≤ k) :
    w1.heap[g]? = some (.cells (cellsM s m) 97 (0, 0)) ∧ Moved W g s { m with given := xs } (w1.setCell ⟨g, 10, none⟩ v1) ∧ IsM (w1.setCell ⟨g, 10, none⟩ v1) g { s with G := v1 } { m with given := xs } ∧ (∀ k, Foot g { s with G := v1 } k → Foot g s k ∨ W.heap.size ≤ k) := by
  have hM := hI.putG (W1 := w1) (v := v1) (xs := xs) (fun k hk hne => hg.block k hk hne) (Own.of rfl ho) hv
  have hF : ∀ k, Foot g { s with G := v1 } k → Foot g s k ∨ W.heap.size ≤ k := by
    rintro k hk
    have hk' : k = g ∨ some k = s.W.ownBlock ∨ some k = s.S.ownBlock ∨ some k = s.G.ownBlock ∨ some k = s.O.ownBlock ∨ some k = v1.ownBlock := by
      rcases hk with h | h | h | h | h <;> (try dsimp only at h) <;> simp [h]
    rcases hk' with h | h | h | h | h | h
    · exact .inl (.inl h)
    · exact .inl (.inr (.inl h))
    · exact .inl (.inr (.inr (.inl h)))
    · exact .inl (.inr (.inr (.inr (.inl h))))
    · exact .inl (.inr (.inr (.inr (.inr h))))
    · rcases hv k h with h | h
      · exact .inl (by unfold Foot; simp [h])
      · exact .inr h
  have hk1 : Kept W w1 (Foot g s) := Kept.of_grown hg (Kept.refl W _) (fun k hk => .inl (by unfold Foot; simp [hk]))
  exact ⟨blk_grown hI.blk hg (fun e => ne_typed hI.given hI.blk (by decide) g e rfl), .of hM rfl hF (kept_own hk1 10 _) hg.os hg.tape hg.output, hM, hF⟩
/-- The same behind an append. -/
theorem app_G {W w1 : World} {g : Nat} {s : Sh} {m : Mach} {v1 : Value} {xs : List Int} (hI : IsM W g s m) (ho : Kd.R (Kd.int .i64) 3 w1 0 (fun _ => True) v1 xs) (hg : W.grownBy w1 s.G.ownBlock) (hat : v1.ownBlock = s.G.ownBlock ∨ ∃ b, v1.ownBlock = some b ∧ W.heap.size ≤ b) :
    w1.heap[g]? = some (.cells (cellsM s m) 97 (0, 0)) ∧ Moved W g s { m with given := xs } (w1.setCell ⟨g, 10, none⟩ v1) ∧ IsM (w1.setCell ⟨g, 10, none⟩ v1) g { s with G := v1 } { m with given := xs } ∧ (∀ k, Foot g { s with G := v1 } k → Foot g s k ∨ W.heap.size ≤ k) := by
  have hv : ∀ k, some k = v1.ownBlock → some k = s.G.ownBlock ∨ W.heap.size ≤ k := by
    intro k hk
    rcases hat with h | ⟨b, hb, hle⟩
    · exact .inl (hk.trans h)
    · rw [hb] at hk; injection hk with hk; exact .inr (by omega)
  exact put_G hI ho hg hv
/-- What an append to got leaves, when it is stored. -/
theorem put_O {W w1 : World} {g : Nat} {s : Sh} {m : Mach} {v1 : Value} {xs : List Int} (hI : IsM W g s m) (ho : Kd.R (Kd.int .i64) 3 w1 0 (fun _ => True) v1 xs) (hg : W.grownBy w1 s.O.ownBlock) (hv : ∀ k, some k = v1.ownBlock → some k = s.O.ownBlock ∨ W.heap.size ≤ k) :
    w1.heap[g]? = some (.cells (cellsM s m) 97 (0, 0)) ∧ Moved W g s { m with got := xs } (w1.setCell ⟨g, 12, none⟩ v1) ∧ IsM (w1.setCell ⟨g, 12, none⟩ v1) g { s with O := v1 } { m with got := xs } ∧ (∀ k, Foot g { s with O := v1 } k → Foot g s k ∨ W.heap.size ≤ k) := by
  have hM := hI.putO (W1 := w1) (v := v1) (xs := xs) (fun k hk hne => hg.block k hk hne) (Own.of rfl ho) hv
  have hF : ∀ k, Foot g { s with O := v1 } k → Foot g s k ∨ W.heap.size ≤ k := by
    rintro k hk
    have hk' : k = g ∨ some k = s.W.ownBlock ∨ some k = s.S.ownBlock ∨ some k = s.G.ownBlock ∨ some k = s.O.ownBlock ∨ some k = v1.ownBlock := by
      rcases hk with h | h | h | h | h <;> (try dsimp only at h) <;> simp [h]
    rcases hk' with h | h | h | h | h | h
    · exact .inl (.inl h)
    · exact .inl (.inr (.inl h))
    · exact .inl (.inr (.inr (.inl h)))
    · exact .inl (.inr (.inr (.inr (.inl h))))
    · exact .inl (.inr (.inr (.inr (.inr h))))
    · rcases hv k h with h | h
      · exact .inl (by unfold Foot; simp [h])
      · exact .inr h
  have hk1 : Kept W w1 (Foot g s) := Kept.of_grown hg (Kept.refl W _) (fun k hk => .inl (by unfold Foot; simp [hk]))
  exact ⟨blk_grown hI.blk hg (fun e => ne_typed hI.got hI.blk (by decide) g e rfl), .of hM rfl hF (kept_own hk1 12 _) hg.os hg.tape hg.output, hM, hF⟩
/-- The same behind an append. -/
theorem app_O {W w1 : World} {g : Nat} {s : Sh} {m : Mach} {v1 : Value} {xs : List Int} (hI : IsM W g s m) (ho : Kd.R (Kd.int .i64) 3 w1 0 (fun _ => True) v1 xs) (hg : W.grownBy w1 s.O.ownBlock) (hat : v1.ownBlock = s.O.ownBlock ∨ ∃ b, v1.ownBlock = some b ∧ W.heap.size ≤ b) :
    w1.heap[g]? = some (.cells (cellsM s m) 97 (0, 0)) ∧ Moved W g s { m with got := xs } (w1.setCell ⟨g, 12, none⟩ v1) ∧ IsM (w1.setCell ⟨g, 12, none⟩ v1) g { s with O := v1 } { m with got := xs } ∧ (∀ k, Foot g { s with O := v1 } k → Foot g s k ∨ W.heap.size ≤ k) := by
  have hv : ∀ k, some k = v1.ownBlock → some k = s.O.ownBlock ∨ W.heap.size ≤ k := by
    intro k hk
    rcases hat with h | ⟨b, hb, hle⟩
    · exact .inl (hk.trans h)
    · rw [hb] at hk; injection hk with hk; exact .inr (by omega)
  exact put_O hI ho hg hv
theorem IsM.type_ne {w : World} {g : Nat} {s : Sh} {m : Mach} {e : Nat} {cs : Array Value} {t : Nat} (h : IsM w g s m) (he : w.heap[e]? = some (.cells cs t (0, 0))) (h1 : t ≠ 97) (h2 : t ≠ 99) (h3 : t ≠ 3) : ∀ k, Foot g s k ∨ some k = s.J.ownBlock → k ≠ e := by
  rintro k ((hk | hk | hk | hk | hk) | hk)
  · rw [hk]; exact blk_ne h.blk he (fun e => h1 e.symm)
  · exact ne_typed h.works he (fun e => h2 e.symm) k hk
  · exact ne_typed h.sent he (fun e => h3 e.symm) k hk
  · exact ne_typed h.given he (fun e => h3 e.symm) k hk
  · exact ne_typed h.got he (fun e => h3 e.symm) k hk
  · exact ne_typed h.jobs he (fun e => h3 e.symm) k hk
/-- A store into a block of another type, new since. -/
theorem Moved.put {w w' : World} {g : Nat} {s : Sh} {m' : Mach} {e : Nat} {cs : Array Value} {t : Nat} (h : Moved w g s m' w') (he : w'.heap[e]? = some (.cells cs t (0, 0))) (h1 : t ≠ 97) (h2 : t ≠ 99) (h3 : t ≠ 3) (hle : w.heap.size ≤ e) (j : Nat) (u : Value) : Moved w g s m' (w'.setCell ⟨e, j, none⟩ u) := by
  obtain ⟨⟨s', hI, hJ, hF⟩, hk, ho, ht, hp⟩ := h
  exact ⟨⟨s', hI.far (p := ⟨e, j, none⟩) (hI.type_ne he h1 h2 h3) u, hJ, hF⟩, Kept.setCell hk (.inr hle) u, ho, ht, hp⟩
theorem Moved.after {w W w' : World} {g : Nat} {s : Sh} {m' : Mach} (hb : Below w.heap.size w W) (h : Moved W g s m' w') : Moved w g s m' w' := by
  obtain ⟨⟨s', hI, hJ, hF⟩, hk, ho, ht, hp⟩ := h
  exact ⟨⟨s', hI, hJ, fun k hk' => (hF k hk').imp id (fun h => Nat.le_trans hb.size h)⟩, Kept.then_ (Kept.of_below hb _) hk (fun k h => .inl h), ho.trans hb.os, ht.trans hb.tape, hp.trans hb.output⟩
theorem Moved.alloc {w w' : World} {g : Nat} {s : Sh} {m' : Mach} (h : Moved w g s m' w') (o : Obj) : Moved w g s m' (w'.alloc o) := by
  obtain ⟨⟨s', hI, hJ, hF⟩, hk, ho, ht, hp⟩ := h
  exact ⟨⟨s', hI.alloc o, hJ, hF⟩, hk.alloc o, ho, ht, hp⟩
theorem Moved.drew {w w' : World} {g : Nat} {s : Sh} {m' : Mach} (h : Moved w g s m' w') : Moved w g s m' w'.drew := by
  obtain ⟨⟨s', hI, hJ, hF⟩, hk, ho, ht, hp⟩ := h
  exact ⟨⟨s', hI.drew, hJ, hF⟩, hk.drew, ho, ht, hp⟩
theorem Moved.drewN {w w' : World} {g : Nat} {s : Sh} {m' : Mach} (h : Moved w g s m' w') (n : Nat) : Moved w g s m' (w'.drewN n) := by
  obtain ⟨⟨s', hI, hJ, hF⟩, hk, ho, ht, hp⟩ := h
  exact ⟨⟨s', hI.drewN n, hJ, hF⟩, hk.drewN n, ho, ht, hp⟩
/-- A number or a bool of the machine is written besides. -/
theorem Moved.set {w w' : World} {g : Nat} {s : Sh} {m1 : Mach} (h : Moved w g s m1 w') (j : Nat) (u : Value) (m' : Mach) (hc : ∀ s', (cellsM s' m1).setIfInBounds j u = cellsM s' m') (hJ : m'.jobs = m1.jobs) (hW : m'.workers = m1.workers) (hS : m'.sent = m1.sent) (hG : m'.given = m1.given) (hO : m'.got = m1.got) : Moved w g s m' (w'.setCell ⟨g, j, none⟩ u) := by
  obtain ⟨⟨s', hI, hJ', hF⟩, hk, ho, ht, hp⟩ := h
  exact ⟨⟨s', hI.set j u m' (hc s') hJ hW hS hG hO, hJ', hF⟩, kept_own hk j u, ho, ht, hp⟩
/-- An event is written into its block. -/
theorem Moved.ev {w w' : World} {g : Nat} {s : Sh} {m' : Mach} {e : Nat} {cs : Array Value} (h : Moved w g s m' w') (he : w'.heap[e]? = some (.cells cs 42 (0, 0))) (hs : cs.size = 4) (hle : w.heap.size ≤ e) (a b c d : Value) :
    Moved w g s m' ((((w'.setCell ⟨e, 0, none⟩ a).setCell ⟨e, 1, none⟩ b).setCell ⟨e, 2, none⟩ c).setCell ⟨e, 3, none⟩ d) ∧ ((((w'.setCell ⟨e, 0, none⟩ a).setCell ⟨e, 1, none⟩ b).setCell ⟨e, 2, none⟩ c).setCell ⟨e, 3, none⟩ d).heap[e]? = some (.cells #[a, b, c, d] 42 (0, 0)) := by
  have h0 := blk_set he 0 a
  have h1 := blk_set h0 1 b
  have h2 := blk_set h1 2 c
  have h3 := blk_set h2 3 d
  refine ⟨((((h.put he (by decide) (by decide) (by decide) hle 0 a).put h0 (by decide) (by decide) (by decide) hle 1 b).put h1 (by decide) (by decide) (by decide) hle 2 c).put h2 (by decide) (by decide) (by decide) hle 3 d), ?_⟩
  rw [h3]
  obtain ⟨x0, x1, x2, x3, rfl⟩ : ∃ x0 x1 x2 x3, cs = #[x0, x1, x2, x3] := by
    obtain ⟨l⟩ := cs
    match l, hs with
    | [x0, x1, x2, x3], _ => exact ⟨x0, x1, x2, x3, rfl⟩
  rfl
end Go.Proofs.Ythcchpbidbbiaaa.Sc
namespace Go.Proofs.Ythcchpbidbbiaaa.Sc
open Go.RowKit Go.Proofs.YthcchpbidbbiaaaW.PrintWords Go.Proofs.YthcchpbidbbiaaaW.PrintLast Go.Proofs.YthcchpbidbbiaaaW.PrintMore Go.Proofs.Ythcchpbidbbiaaa.PSchedSide
set_option linter.unusedVariables false
set_option linter.unusedSimpArgs false
set_option maxHeartbeats 4000000 in
set_option maxRecDepth 1000000 in
theorem do79 (w : World) (g : Nat) (s : Sh) (m : Mach) (c : Nat) (hI : IsM w g s m) (hO : Ok m) (hc : w.heap[c]? = some (.cells #[ptr g] 32 (0, 0))) :
    Calls Try.prog 79 #[ptr c] w fun e w' => e = .returned (ev 1 0 m.next 0) ∧ Moved w g s { m with sent := m.sent ++ [m.next], next := m.next + 1 } w' := by
  obtain ⟨AJ, cJ, AW, cW, AS, cS, AG, cG, AO, cO, rfl⟩ := hI.slices
  have hn := hO.nx
  have hj := hO.nj
  have HL := Aside0.mk (show (m.sent.length : Int) ≤ 8 from by have := hO.ns; have := hO.pj; omega)
  have HC := Aside0.mk (show ((w.alloc (.cells #[.int .i64 0, .int .i64 0, .int .i64 0, .int .i64 0] 42)).drew).heap[c]? = some (.cells #[ptr g] 32 (0, 0)) from blk_alloc hc _)
  have HI := Aside0.mk ((hI.alloc (.cells #[.int .i64 0, .int .i64 0, .int .i64 0, .int .i64 0] 42)).drew)
  have HE := Aside0.mk (show ((w.alloc (.cells #[.int .i64 0, .int .i64 0, .int .i64 0, .int .i64 0] 42)).drew).heap[w.heap.size]? = some (.cells #[.int .i64 0, .int .i64 0, .int .i64 0, .int .i64 0] 42 (0, 0)) from heap_alloc_new w _)
  have HB := Aside0.mk (show Below w.heap.size w (w.alloc (.cells #[.int .i64 0, .int .i64 0, .int .i64 0, .int .i64 0] 42)).drew from below_drew (below_alloc (Below.refl _ _) _))
  have HW := Aside0.mk (show Moved w g ⟨.slice AJ m.jobs.length cJ, .slice AW m.workers.length cW, .slice AS m.sent.length cS, .slice AG m.given.length cG, .slice AO m.got.length cO⟩ m w from .of hI rfl (fun _ h => .inl h) (Kept.refl _ _) rfl rfl rfl)
  clear hI hO hc
  obtain ⟨e0, he0⟩ : ∃ e0, w.heap.size = e0 := ⟨_, rfl⟩
  have HZ := Aside0.mk he0
  rw [he0] at HE
  go_enter Try.func79, Try.ntmps79
  go_wp2
  (try rw [he0])
  clear he0
  have HW0 := Aside0.mk (show (w.alloc (.cells #[.int .i64 0, .int .i64 0, .int .i64 0, .int .i64 0] 42)).drew = (w.alloc (.cells #[.int .i64 0, .int .i64 0, .int .i64 0, .int .i64 0] 42)).drew from rfl)
  refine start_ (n := 14) (S := fun w' => w'.heap[c]? = some (.cells #[ptr g] 32 (0, 0)) ∧ w'.heap[g]? = some (.cells (cellsM ⟨.slice AJ m.jobs.length cJ, .slice AW m.workers.length cW, .slice AS m.sent.length cS, .slice AG m.given.length cG, .slice AO m.got.length cO⟩ m) 97 (0, 0)) ∧ w'.heap[e0]? = some (.cells #[.int .i64 0, .int .i64 0, .int .i64 0, .int .i64 0] 42 (0, 0))) (ds := [13]) #[false, false, false, false, false, false, false, false, false, false, false, false, false, false] (by kernel_rfl) rfl rfl ⟨HC.out, HI.out.blk, HE.out⟩ (fun hHeld => ?_)
  generalize (w.alloc (.cells #[.int .i64 0, .int .i64 0, .int .i64 0, .int .i64 0] 42)).drew = W at HC HI HE HB hHeld ⊢
  refine take_ (i := 0) (N := (some 2)) (v := ?_) (a' := ?_) #[true, false, false, false, false, false, false, false, false, false, false, false, false, false] rfl rfl (by kernel_rfl) (fun _ _ _ h => h) (Or.inl ⟨by rfl, ?_⟩) hHeld ?_ ?_
  rotate_left
  · rintro w' ⟨s0, s1, s2⟩
    have t0 : w'.cell? ⟨c, 0, none⟩ = some (.pointer (some ⟨g, 0, none⟩)) := (blk_cell s0 0).trans rfl
    have t9 : w'.cell? ⟨g, 9, none⟩ = some (.slice AS m.sent.length cS) := (blk_cell s1 9).trans rfl
    have t4 : w'.cell? ⟨g, 4, none⟩ = some (.int .i64 m.next) := (blk_cell s1 4).trans rfl
    go_simp
    with_reducible rfl
  rotate_left
  · simp only [Act.put, List.setIfInBounds_toArray, List.set_cons_zero, List.set_cons_succ, i64_w, i32_w]
    rfl
  refine take_ (i := 1) (N := (some 3)) (v := ?_) (a' := ?_) #[true, true, false, false, false, false, false, false, false, false, false, false, false, false] rfl rfl (by kernel_rfl) (fun _ _ _ h => h) (Or.inl ⟨by rfl, ?_⟩) hHeld ?_ ?_
  rotate_left
  · rintro w' ⟨s0, s1, s2⟩
    have t0 : w'.cell? ⟨c, 0, none⟩ = some (.pointer (some ⟨g, 0, none⟩)) := (blk_cell s0 0).trans rfl
    have t9 : w'.cell? ⟨g, 9, none⟩ = some (.slice AS m.sent.length cS) := (blk_cell s1 9).trans rfl
    have t4 : w'.cell? ⟨g, 4, none⟩ = some (.int .i64 m.next) := (blk_cell s1 4).trans rfl
    go_simp
    with_reducible rfl
  rotate_left
  · simp only [Act.put, List.setIfInBounds_toArray, List.set_cons_zero, List.set_cons_succ, i64_w, i32_w]
    rfl
  refine pure_ (i := 2) (N := (some 4)) (v := ?_) (a' := ?_) #[true, true, true, false, false, false, false, false, false, false, false, false, false, false] rfl rfl (by kernel_rfl) (fun _ _ _ h => h) (Or.inl ⟨by rfl, ?_⟩) ?_ ?_
  rotate_left
  · intro w'
    go_simp
    with_reducible rfl
  rotate_left
  · simp only [Act.put, List.setIfInBounds_toArray, List.set_cons_zero, List.set_cons_succ, i64_w, i32_w]
    rfl
  refine pure_ (i := 3) (N := (some 5)) (v := ?_) (a' := ?_) #[true, true, true, true, false, false, false, false, false, false, false, false, false, false] rfl rfl (by kernel_rfl) (fun _ _ _ h => h) (Or.inl ⟨by rfl, ?_⟩) ?_ ?_
  rotate_left
  · intro w'
    go_simp
    with_reducible rfl
  rotate_left
  · simp only [Act.put, List.setIfInBounds_toArray, List.set_cons_zero, List.set_cons_succ, i64_w, i32_w]
    rfl
  refine take_ (i := 4) (N := (some 6)) (v := ?_) (a' := ?_) #[true, true, true, true, true, false, false, false, false, false, false, false, false, false] rfl rfl (by kernel_rfl) (fun _ _ _ h => h) (Or.inl ⟨by rfl, ?_⟩) hHeld ?_ ?_
  rotate_left
  · rintro w' ⟨s0, s1, s2⟩
    have t0 : w'.cell? ⟨c, 0, none⟩ = some (.pointer (some ⟨g, 0, none⟩)) := (blk_cell s0 0).trans rfl
    have t9 : w'.cell? ⟨g, 9, none⟩ = some (.slice AS m.sent.length cS) := (blk_cell s1 9).trans rfl
    have t4 : w'.cell? ⟨g, 4, none⟩ = some (.int .i64 m.next) := (blk_cell s1 4).trans rfl
    go_simp
    with_reducible rfl
  rotate_left
  · simp only [Act.put, List.setIfInBounds_toArray, List.set_cons_zero, List.set_cons_succ, i64_w, i32_w]
    rfl
  refine take_ (i := 5) (N := (some 7)) (v := ?_) (a' := ?_) #[true, true, true, true, true, true, false, false, false, false, false, false, false, false] rfl rfl (by kernel_rfl) (fun _ _ _ h => h) (Or.inl ⟨by rfl, ?_⟩) hHeld ?_ ?_
  rotate_left
  · rintro w' ⟨s0, s1, s2⟩
    have t0 : w'.cell? ⟨c, 0, none⟩ = some (.pointer (some ⟨g, 0, none⟩)) := (blk_cell s0 0).trans rfl
    have t9 : w'.cell? ⟨g, 9, none⟩ = some (.slice AS m.sent.length cS) := (blk_cell s1 9).trans rfl
    have t4 : w'.cell? ⟨g, 4, none⟩ = some (.int .i64 m.next) := (blk_cell s1 4).trans rfl
    go_simp
    with_reducible rfl
  rotate_left
  · simp only [Act.put, List.setIfInBounds_toArray, List.set_cons_zero, List.set_cons_succ, i64_w, i32_w]
    rfl
  refine pure_ (i := 6) (N := (some 8)) (v := ?_) (a' := ?_) #[true, true, true, true, true, true, true, false, false, false, false, false, false, false] rfl rfl (by kernel_rfl) (fun _ _ _ h => h) (Or.inl ⟨by rfl, ?_⟩) ?_ ?_
  rotate_left
  · intro w'
    go_simp
    with_reducible rfl
  rotate_left
  · simp only [Act.put, List.setIfInBounds_toArray, List.set_cons_zero, List.set_cons_succ, i64_w, i32_w]
    rfl
  refine pure_ (i := 7) (N := (some 9)) (v := ?_) (a' := ?_) #[true, true, true, true, true, true, true, true, false, false, false, false, false, false] rfl rfl (by kernel_rfl) (fun _ _ _ h => h) (Or.inl ⟨by rfl, ?_⟩) ?_ ?_
  rotate_left
  · intro w'
    go_simp
    with_reducible rfl
  rotate_left
  · simp only [Act.put, List.setIfInBounds_toArray, List.set_cons_zero, List.set_cons_succ, i64_w, i32_w]
    rfl
  refine take_ (i := 8) (N := (some 10)) (v := ?_) (a' := ?_) #[true, true, true, true, true, true, true, true, true, false, false, false, false, false] rfl rfl (by kernel_rfl) (fun _ _ _ h => h) (Or.inl ⟨by rfl, ?_⟩) hHeld ?_ ?_
  rotate_left
  · rintro w' ⟨s0, s1, s2⟩
    have t0 : w'.cell? ⟨c, 0, none⟩ = some (.pointer (some ⟨g, 0, none⟩)) := (blk_cell s0 0).trans rfl
    have t9 : w'.cell? ⟨g, 9, none⟩ = some (.slice AS m.sent.length cS) := (blk_cell s1 9).trans rfl
    have t4 : w'.cell? ⟨g, 4, none⟩ = some (.int .i64 m.next) := (blk_cell s1 4).trans rfl
    go_simp
    with_reducible rfl
  rotate_left
  · simp only [Act.put, List.setIfInBounds_toArray, List.set_cons_zero, List.set_cons_succ, i64_w, i32_w]
    rfl
  refine one_ (i := 9) (N := (some 11)) #[true, true, true, true, true, true, true, true, true, true, false, false, false, false] rfl rfl (by kernel_rfl) (by decide) (fun K hK => ?_)
  refine value_ (w1 := ?_) (v := ?_) (by rfl) rfl ?_ ?_
  rotate_left 2
  · go_simp
    constructor
    · rfl
    · rfl
  refine hK.out _ _ ⟨blk_alloc HC.out _, blk_alloc HI.out.blk _, blk_alloc HE.out _⟩ (fun hHeld => ?_)
  clear hK K
  refine norm_ (a' := ?_) ?_ ?_
  rotate_left
  · show Act.put _ (some 11) _ = _
    simp only [Act.put, List.setIfInBounds_toArray, List.set_cons_zero, List.set_cons_succ, i64_w, i32_w]
    rfl
  refine one_ (i := 10) (N := (some 12)) #[true, true, true, true, true, true, true, true, true, true, true, false, false, false] rfl rfl (by kernel_rfl) (by decide) (fun K hK => ?_)
  refine Kd.R_append_step (Kd.int .i64) (w0 := W) 0 (by rfl) (.tmp 6) (.tmp 11) 24 3 (.int .i64 0) 8 rfl Try.underlying24 info3 rfl (by decide) (by omega) (.slice AS m.sent.length cS) m.sent m.next [.int .i64 m.next] (fun _ => True) (fun _ => False) rfl rfl ?aP (fun _ hk => hk.elim) ?aF ?aO ?aB ?aS ?aL ?_
  (case aP => exact rfl)
  (case aF => exact (fun _ _ => trivial))
  (case aO => exact Kd.R_mono HI.out.sent (fun _ _ => trivial))
  (case aB => exact Below.refl 0 W)
  (case aS => exact Nat.zero_le _)
  (case aL => have := HL.out; omega)
  intro v1 w1 ho hb hgr hat
  obtain ⟨A1, c1, hv⟩ := Kd.R_slice ho
  rw [List.length_append, List.length_singleton] at hv
  subst hv
  obtain ⟨ob, om, oi, of_⟩ := app_S HI.out ho hgr hat
  have OC := Aside0.mk (blk_grown HC.out hgr (fun e => ne_typed HI.out.sent HC.out (by decide) c e rfl))
  have OE := Aside0.mk (blk_grown HE.out hgr (fun e => ne_typed HI.out.sent HE.out (by decide) e0 e rfl))
  have OB := Aside0.mk ob
  have OM := Aside0.mk om
  have OI := Aside0.mk oi
  clear ho hb hgr hat om oi of_
  refine hK.out _ _ ⟨OC.out, OB.out, OE.out⟩ (fun hHeld => ?_)
  have q9 : w1.cell? ⟨g, 9, none⟩ = some (.slice AS m.sent.length cS) := (blk_cell ob 9).trans rfl
  have r9 := blk_frozen ob 9
  clear hK K
  refine norm_ (a' := ?_) ?_ ?_
  rotate_left
  · show Act.put _ (some 12) _ = _
    simp only [Act.put, List.setIfInBounds_toArray, List.set_cons_zero, List.set_cons_succ, i64_w, i32_w]
    rfl
  refine pure_ (i := 11) (N := (some 13)) (v := ?_) (a' := ?_) #[true, true, true, true, true, true, true, true, true, true, true, true, false, false] rfl rfl (by kernel_rfl) (fun _ _ _ h => h) (Or.inl ⟨by rfl, ?_⟩) ?_ ?_
  rotate_left
  · intro w'
    go_simp
    with_reducible rfl
  rotate_left
  · simp only [Act.put, List.setIfInBounds_toArray, List.set_cons_zero, List.set_cons_succ, i64_w, i32_w]
    rfl
  refine pure_ (i := 12) (N := (some 14)) (v := ?_) (a' := ?_) #[true, true, true, true, true, true, true, true, true, true, true, true, true, false] rfl rfl (by kernel_rfl) (fun _ _ _ h => h) (Or.inl ⟨by rfl, ?_⟩) ?_ ?_
  rotate_left
  · intro w'
    go_simp
    with_reducible rfl
  rotate_left
  · simp only [Act.put, List.setIfInBounds_toArray, List.set_cons_zero, List.set_cons_succ, i64_w, i32_w]
    rfl
  refine last_ (i := 13) (N := none) #[true, true, true, true, true, true, true, true, true, true, true, true, true, true] rfl rfl (by kernel_rfl) (by decide) (fun K hK => ?_)
  refine skip_ (w1 := ?_) (by rfl) rfl ?_ ?_
  rotate_left
  · go_simp
    rfl
  refine hK.out _ _ ?_
  clear hK K
  refine done_ (by kernel_rfl) ?_
  have NG := Aside0.mk (blk_ne OI.out.blk (blk_far OC.out (p := ⟨g, 9, none⟩) (blk_ne OC.out OB.out (by decide)) (.slice A1 (m.sent.length + 1) c1)) (by decide))
  have OC2 := Aside0.mk (blk_far OC.out (p := ⟨g, 9, none⟩) (blk_ne OC.out OB.out (by decide)) (.slice A1 (m.sent.length + 1) c1))
  have OE2 := Aside0.mk (blk_far OE.out (p := ⟨g, 9, none⟩) (blk_ne OE.out OB.out (by decide)) (.slice A1 (m.sent.length + 1) c1))
  clear OC OE OB ob q9 r9 hHeld
  generalize w1.setCell ⟨g, 9, none⟩ (.slice A1 (m.sent.length + 1) c1) = W2 at OI OM OC2 OE2 ⊢
  have t0 : W2.cell? ⟨c, 0, none⟩ = some (.pointer (some ⟨g, 0, none⟩)) := (blk_cell OC2.out 0).trans rfl
  have t4 : W2.cell? ⟨g, 4, none⟩ = some (.int .i64 m.next) := (blk_cell OI.out.blk 4).trans rfl
  have f4 := OI.out.free 4
  have ng : ¬ g = e0 := blk_ne OI.out.blk OE2.out (by decide)
  have nc : ¬ c = g := fun e => blk_ne OI.out.blk OC2.out (by decide) e.symm
  have nc2 : ¬ c = e0 := blk_ne OC2.out OE2.out (by decide)
  have u0 : W2.cell? ⟨e0, 0, none⟩ = some (.int .i64 0) := (blk_cell OE2.out 0).trans rfl
  have u1 : W2.cell? ⟨e0, 1, none⟩ = some (.int .i64 0) := (blk_cell OE2.out 1).trans rfl
  have u2 : W2.cell? ⟨e0, 2, none⟩ = some (.int .i64 0) := (blk_cell OE2.out 2).trans rfl
  have u3 : W2.cell? ⟨e0, 3, none⟩ = some (.int .i64 0) := (blk_cell OE2.out 3).trans rfl
  have v0 := blk_frozen OE2.out 0
  have v1 := blk_frozen OE2.out 1
  have v2 := blk_frozen OE2.out 2
  have v3 := blk_frozen OE2.out 3
  go_wp2
  have M2 := (Moved.after HB.out OM.out).set 4 (.int .i64 (m.next + 1)) { m with sent := m.sent ++ [m.next], next := m.next + 1 } (fun _ => rfl) rfl rfl rfl rfl rfl
  obtain ⟨M3, H3⟩ := M2.ev (blk_far OE2.out (p := ⟨g, 4, none⟩) (fun e => ng e.symm) (.int .i64 (m.next + 1))) rfl (Nat.le_of_eq HZ.out) (.int .i64 1) (.int .i64 0) (.int .i64 m.next) (.int .i64 0)
  exact bodyPost_ret (results_cell_row rfl _ _ e0 42 _ (0, 0) _ rfl H3 Try.underlying42 rfl (by kernel_rfl)) rfl ⟨rfl, M3⟩
end Go.Proofs.Ythcchpbidbbiaaa.Sc
namespace Go.Proofs.Ythcchpbidbbiaaa.Sc
open Go.RowKit Go.Proofs.YthcchpbidbbiaaaW.PrintWords Go.Proofs.YthcchpbidbbiaaaW.PrintLast Go.Proofs.YthcchpbidbbiaaaW.PrintMore Go.Proofs.Ythcchpbidbbiaaa.PSchedSide
set_option linter.unusedVariables false
theorem own_form {α : Type} {d : Kd α} {e : Nat} {w : World} {v : Value} {xs : List α} (h : Own d e w v xs) (hp : 0 < xs.length) : ∃ b c, v = .slice (some ⟨b, 0, none⟩) xs.length c := by
  obtain ⟨inner, ho⟩ := Kd.R_own h
  rcases ho.2 with ⟨_, hn⟩ | ⟨g, cap, cur, hv, _⟩
  · omega
  · exact ⟨g, cap, hv⟩
theorem own_int {w : World} {b n c : Nat} {xs : List Int} (h : Own (Kd.int .i64) 3 w (.slice (some ⟨b, 0, none⟩) n c) xs) (i : Int) (h0 : 0 ≤ i) (h1 : i < n) : w.cell? ⟨b, i.toNat, none⟩ = some (.int .i64 (rd xs i)) := by
  have := Kd.foot_int (Kd.R_reads' h).2.2 i h0 (by have := (Kd.R_reads' h).1; omega)
  rwa [add_plain] at this
theorem wk_row {w : World} {bW n cW : Nat} {xs : List S99} (h : Own k99 99 w (.slice (some ⟨bW, 0, none⟩) n cW) xs) (j : Int) (h0 : 0 ≤ j) (h1 : j < n) :
    ∀ i, i < 3 → (w.cell? ⟨bW, j.toNat * 3 + i, none⟩).isSome = true ∧ w.frozen? ⟨bW, j.toNat * 3 + i, none⟩ = false := by
  intro i hi
  obtain ⟨c, hl, hM, hc, hf⟩ := Kd.R_elem h z99 j h0 h1
  have hl3 : c.length = 3 := hl
  refine ⟨?_, hf i⟩
  have := hc i (c[i]'(by omega)) (List.getElem?_eq_getElem _)
  rw [show k99.sz = 3 from rfl] at this
  rw [this]; rfl
theorem own_wk3 {w : World} {bW n cW : Nat} {xs : List S99} (h : Own k99 99 w (.slice (some ⟨bW, 0, none⟩) n cW) xs) (j : Int) (h0 : 0 ≤ j) (h1 : j < n) (x : S59) :
    Own k99 99 (((w.setCell ⟨bW, j.toNat * 3, none⟩ (.int .i64 x.f0)).setCell ⟨bW, j.toNat * 3 + 1, none⟩ (.int .i64 x.f1)).setCell ⟨bW, j.toNat * 3 + 2, none⟩ (.int .i64 x.f2)) (.slice (some ⟨bW, 0, none⟩) n cW) (xs.set j.toNat ⟨x⟩) ∧
    w.grownBy (((w.setCell ⟨bW, j.toNat * 3, none⟩ (.int .i64 x.f0)).setCell ⟨bW, j.toNat * 3 + 1, none⟩ (.int .i64 x.f1)).setCell ⟨bW, j.toNat * 3 + 2, none⟩ (.int .i64 x.f2)) (some bW) := by
  obtain ⟨c, hl, hM, hc, hf⟩ := Kd.R_elem h z99 j h0 h1
  have hl3 : c.length = 3 := hl
  have hmm : k99.M w 0 (fun _ => False) (⟨x⟩ : S99) (c.take 0 ++ [.int .i64 x.f0, .int .i64 x.f1, .int .i64 x.f2] ++ c.drop (0 + 3)) := by
    rw [List.take_zero, List.nil_append, List.drop_eq_nil_of_le (by omega), List.append_nil]
    exact k99_mkM w 0 _ (⟨x⟩ : S99)
  exact Kd.R_seg (seg := [.int .i64 x.f0, .int .i64 x.f1, .int .i64 x.f2]) (j := 0) h j h0 h1 hl hc (by show 0 + 3 ≤ 3; omega) hmm (fun _ hk => hk.elim)
theorem own_wk1 {w : World} {bW n cW : Nat} {xs : List S99} (h : Own k99 99 w (.slice (some ⟨bW, 0, none⟩) n cW) xs) (j : Int) (h0 : 0 ≤ j) (h1 : j < n) (l : Int) :
    Own k99 99 (w.setCell ⟨bW, j.toNat * 3 + 2, none⟩ (.int .i64 l)) (.slice (some ⟨bW, 0, none⟩) n cW) (xs.set j.toNat ⟨⟨(rd_T99 xs j).f0.f0, (rd_T99 xs j).f0.f1, l⟩⟩) ∧
    w.grownBy (w.setCell ⟨bW, j.toNat * 3 + 2, none⟩ (.int .i64 l)) (some bW) := by
  obtain ⟨c, hl, hM, hc, hf⟩ := Kd.R_elem h z99 j h0 h1
  have hce := k99_openM hM
  have hl3 : c.length = 3 := hl
  have hmm : k99.M w 0 (fun _ => False) (⟨⟨(rd_T99 xs j).f0.f0, (rd_T99 xs j).f0.f1, l⟩⟩ : S99) (c.take 2 ++ [.int .i64 l] ++ c.drop (2 + 1)) := by
    rw [hce]
    exact k99_mkM w 0 _ (⟨⟨(rd_T99 xs j).f0.f0, (rd_T99 xs j).f0.f1, l⟩⟩ : S99)
  exact Kd.R_seg (seg := [.int .i64 l]) (j := 2) h j h0 h1 hl hc (by show 2 + 1 ≤ 3; omega) hmm (fun _ hk => hk.elim)
/-- The machine whose worker was written. -/
theorem Moved.wk {w w' : World} {g : Nat} {s : Sh} {m : Mach} {bW n cW : Nat} {xs : List S99} (hI : IsM w g s m) (hs : s.W = .slice (some ⟨bW, 0, none⟩) n cW) (ho : Own k99 99 w' (.slice (some ⟨bW, 0, none⟩) n cW) xs) (hg : w.grownBy w' (some bW)) : Moved w g s { m with workers := xs } w' := by
  have hb : s.W.ownBlock = some bW := by rw [hs]; rfl
  have hM := hI.writeW (W1 := w') (xs := xs) (fun k hk hne => hg.block k hk (fun e => hne (e.trans hb.symm))) (by rw [hs]; exact ho)
  exact .of hM rfl (fun _ h => .inl h) (Kept.of_grown hg (Kept.refl _ _) (fun k hk => .inl (.inr (.inl (hk.symm.trans hb.symm))))) hg.os hg.tape hg.output
end Go.Proofs.Ythcchpbidbbiaaa.Sc
namespace Go.Proofs.Ythcchpbidbbiaaa.Sc
open Go.RowKit Go.Proofs.YthcchpbidbbiaaaW.PrintWords Go.Proofs.YthcchpbidbbiaaaW.PrintLast Go.Proofs.YthcchpbidbbiaaaW.PrintMore Go.Proofs.Ythcchpbidbbiaaa.PSchedSide
set_option linter.unusedVariables false
set_option linter.unusedSimpArgs false
set_option maxHeartbeats 4000000 in
set_option maxRecDepth 1000000 in
theorem do81 (w : World) (g : Nat) (s : Sh) (m : Mach) (j k p jb : Int) (bW cW cw ck cp cj : Nat) (hI : IsM w g s m) (hs : s.W = .slice (some ⟨bW, 0, none⟩) m.workers.length cW) (h0 : 0 ≤ j) (h1 : j < m.workers.length)
    (hcw : w.heap[cw]? = some (.cells #[.pointer (some ⟨bW, j.toNat * 3, none⟩)] 119 (0, 0))) (hck : w.heap[ck]? = some (.cells #[.int .i64 k] 3 (0, 0))) (hcp : w.heap[cp]? = some (.cells #[.int .i64 p] 3 (0, 0))) (hcj : w.heap[cj]? = some (.cells #[.int .i64 jb] 3 (0, 0)))
    (nk : ck ≠ bW) (np : cp ≠ bW) (nj : cj ≠ bW) :
    Calls Try.prog 81 #[ptr cw, ptr ck, ptr cp, ptr cj] w fun e w' => e = .returned (ev k p jb 0) ∧ Moved w g s { m with workers := m.workers.set j.toNat ⟨⟨0, 0, 0⟩⟩ } w' := by
  have hW := hI.works
  rw [hs] at hW
  have r0 := wk_row hW j h0 h1
  have f0 : w.frozen? ⟨bW, j.toNat * 3, none⟩ = false := (r0 0 (by omega)).2
  have f1 := (r0 1 (by omega)).2
  have f2 := (r0 2 (by omega)).2
  obtain ⟨ad, ead, hx0, hx1, hx2⟩ := at_T99 (Kd.R_reads' hW).2.2 j h0 (by have := (Kd.R_reads' hW).1; omega)
  obtain rfl := Option.some.inj ead
  rw [add_plain] at hx0 hx1 hx2
  simp only [] at hx1 hx2
  have e1 : w.cell? ⟨cw, 0, none⟩ = some (.pointer (some ⟨bW, j.toNat * 3, none⟩)) := (blk_cell hcw 0).trans rfl
  have e2 : w.cell? ⟨ck, 0, none⟩ = some (.int .i64 k) := (blk_cell hck 0).trans rfl
  have e3 : w.cell? ⟨cp, 0, none⟩ = some (.int .i64 p) := (blk_cell hcp 0).trans rfl
  have e4 : w.cell? ⟨cj, 0, none⟩ = some (.int .i64 jb) := (blk_cell hcj 0).trans rfl
  have l1 := blk_lt hcw
  have l2 := blk_lt hck
  have l3 := blk_lt hcp
  have l4 := blk_lt hcj
  have lb : bW < w.heap.size := hW.lt bW rfl
  have O3 := Aside0.mk (own_wk3 hW j h0 h1 ⟨0, 0, 0⟩)
  have HS := Aside0.mk hs
  have HI := Aside0.mk hI
  clear hI hW r0 ead hs h0 h1
  go_enter Try.func81, Try.ntmps81
  go_wp2
  refine bodyPost_ret (results_cell_row rfl _ _ w.heap.size 42 #[.int .i64 k, .int .i64 p, .int .i64 jb, .int .i64 0] (0, 0) _ rfl (new_at _ (by simp [size_set])) Try.underlying42 rfl (by kernel_rfl)) rfl ?_
  exact ⟨rfl, (Moved.wk HI.out HS.out O3.out.1 O3.out.2).alloc _⟩
set_option maxHeartbeats 8000000 in
set_option maxRecDepth 1000000 in
theorem do84 (w : World) (g : Nat) (s : Sh) (m : Mach) (j p k1 k2 : Int) (bW cW cw cp cj cm : Nat) (hI : IsM w g s m) (hO : Ok m) (hs : s.W = .slice (some ⟨bW, 0, none⟩) m.workers.length cW) (h0 : 0 ≤ j) (h1 : j < m.workers.length)
    (hk : (rd_T99 m.workers j).f0 = ⟨2, k1, k2⟩) (hj0 : 0 ≤ k1) (hj1 : k1 < m.jobs.length) (hl0 : 0 < k2) (hl1 : k2 ≤ 1000)
    (hcw : w.heap[cw]? = some (.cells #[.pointer (some ⟨bW, j.toNat * 3, none⟩)] 119 (0, 0))) (hcp : w.heap[cp]? = some (.cells #[.int .i64 p] 3 (0, 0))) (hcj : w.heap[cj]? = some (.cells #[.int .i64 k1] 3 (0, 0))) (hcm : w.heap[cm]? = some (.cells #[ptr g] 32 (0, 0))) :
    Calls Try.prog 84 #[ptr cw, ptr cp, ptr cj, ptr cm] w fun e w' => e = .returned (ev 5 p k1 (rd m.jobs k1 - (k2 - 1) - 1)) ∧ Moved w g s { m with workers := m.workers.set j.toNat ⟨⟨2, k1, k2 - 1⟩⟩ } w' := by
  have hW := hI.works
  rw [hs] at hW
  have r0 := wk_row hW j h0 h1
  have f2 := (r0 2 (by omega)).2
  obtain ⟨ad, ead, hx0, hx1, hx2⟩ := at_T99 (Kd.R_reads' hW).2.2 j h0 (by have := (Kd.R_reads' hW).1; omega)
  obtain rfl := Option.some.inj ead
  rw [add_plain] at hx0 hx1 hx2
  simp only [] at hx1 hx2
  rw [hk] at hx0 hx1 hx2
  simp only [] at hx0 hx1 hx2
  have np : ¬ cp = bW := fun e => by
    obtain ⟨c1, e1⟩ := Kd.R_typed hW bW rfl
    rw [e] at hcp; rw [e1] at hcp; simp at hcp
  have nj : ¬ cj = bW := fun e => by
    obtain ⟨c1, e1⟩ := Kd.R_typed hW bW rfl
    rw [e] at hcj; rw [e1] at hcj; simp at hcj
  have nm : ¬ cm = bW := fun e => by
    obtain ⟨c1, e1⟩ := Kd.R_typed hW bW rfl
    rw [e] at hcm; rw [e1] at hcm; simp at hcm
  have nw : ¬ cw = bW := fun e => by
    obtain ⟨c1, e1⟩ := Kd.R_typed hW bW rfl
    rw [e] at hcw; rw [e1] at hcw; simp at hcw
  have O1 := own_wk1 hW j h0 h1 (k2 - 1)
  rw [hk] at O1
  simp only [] at O1
  have O1' := Aside0.mk O1
  have M1 := Aside0.mk (Moved.wk hI hs O1.1 O1.2)
  have hg := hI.lt
  have lb : bW < w.heap.size := hW.lt bW rfl
  have l1 := blk_lt hcw
  have l2 := blk_lt hcp
  have l3 := blk_lt hcj
  have l4 := blk_lt hcm
  have ng : ¬ g = bW := fun e => ne_typed hW hI.blk (by decide) bW rfl e.symm
  have e1 : w.cell? ⟨cw, 0, none⟩ = some (.pointer (some ⟨bW, j.toNat * 3, none⟩)) := (blk_cell hcw 0).trans rfl
  have e2 : w.cell? ⟨cp, 0, none⟩ = some (.int .i64 p) := (blk_cell hcp 0).trans rfl
  have e3 : w.cell? ⟨cj, 0, none⟩ = some (.int .i64 k1) := (blk_cell hcj 0).trans rfl
  have e4 : w.cell? ⟨cm, 0, none⟩ = some (.pointer (some ⟨g, 0, none⟩)) := (blk_cell hcm 0).trans rfl
  obtain ⟨bJ, cJ, hJ⟩ := own_form hI.jobs (by omega)
  have hJo := hI.jobs
  rw [hJ] at hJo
  have e5 := own_int hJo k1 hj0 hj1
  have lJ : bJ < w.heap.size := hJo.lt bJ rfl
  have nJ : ¬ bJ = bW := fun e => by
    obtain ⟨c1, e1⟩ := Kd.R_typed hW bW rfl
    obtain ⟨c2, e2⟩ := Kd.R_typed hJo bJ rfl
    rw [e, e1] at e2; simp at e2
  have h3 := hI.cells.2.2.2.1
  rw [hJ] at h3
  obtain ⟨x, hx⟩ : ∃ x, rd m.jobs k1 = x := ⟨_, rfl⟩
  have hxb : 0 ≤ x ∧ x ≤ 1000 := by
    rw [← hx]
    unfold rd
    have h5 : k1.toNat < m.jobs.length := by omega
    rw [List.getD_eq_getElem?_getD, List.getElem?_eq_getElem h5]
    exact hO.js _ (List.getElem_mem h5)
  rw [hx] at e5 ⊢
  have i0 := eq_true hj0
  have i1 := eq_true hj1
  clear hI hW hJo hO hs hk r0 ead O1 hJ hx hcw hcp hcj hcm
  go_enter Try.func84, Try.ntmps84
  go_wp2
  go_region
  go_wp2
  refine bodyPost_ret (results_cell_row rfl _ _ w.heap.size 42 #[.int .i64 5, .int .i64 p, .int .i64 k1, .int .i64 (x - (k2 - 1) - 1)] (0, 0) _ rfl (new_at _ (size_set _ _ _)) Try.underlying42 rfl (by kernel_rfl)) rfl ?_
  exact ⟨rfl, (M1.out.alloc _).drew⟩
end Go.Proofs.Ythcchpbidbbiaaa.Sc
namespace Go.Proofs.Ythcchpbidbbiaaa.Sc
open Go.RowKit Go.Proofs.YthcchpbidbbiaaaW.PrintWords Go.Proofs.YthcchpbidbbiaaaW.PrintLast Go.Proofs.YthcchpbidbbiaaaW.PrintMore Go.Proofs.Ythcchpbidbbiaaa.PSchedSide
set_option linter.unusedVariables false
set_option linter.unusedSimpArgs false
theorem Moved.comp {w W3 W4 : World} {g : Nat} {s s1 : Sh} {m1 m3 : Mach} (h : Moved w g s m1 W3) (h2 : Moved W3 g s1 m3 W4) (hJ : s1.J = s.J) (hF : ∀ k, Foot g s1 k → Foot g s k ∨ w.heap.size ≤ k) : Moved w g s m3 W4 := by
  obtain ⟨_, hk, ho, ht, hp⟩ := h
  obtain ⟨⟨s', hI, hJ', hF'⟩, hk', ho', ht', hp'⟩ := h2
  refine ⟨⟨s', hI, hJ'.trans hJ, fun k hk2 => ?_⟩, Kept.then_ hk hk' hF, ho'.trans ho, ht'.trans ht, hp'.trans hp⟩
  rcases hF' k hk2 with h | h
  · exact hF k h
  · exact .inr (Nat.le_trans hk.1 h)
set_option maxHeartbeats 4000000 in
set_option maxRecDepth 1000000 in
theorem do85 (w : World) (g : Nat) (s : Sh) (m : Mach) (j p jb : Int) (bW cX cm cj cw cp : Nat) (hI : IsM w g s m) (hO : Ok m) (hs : s.W = .slice (some ⟨bW, 0, none⟩) m.workers.length cX) (h0 : 0 ≤ j) (h1 : j < m.workers.length)
    (hcm : w.heap[cm]? = some (.cells #[ptr g] 32 (0, 0))) (hcj : w.heap[cj]? = some (.cells #[.int .i64 jb] 3 (0, 0))) (hcw : w.heap[cw]? = some (.cells #[.pointer (some ⟨bW, j.toNat * 3, none⟩)] 119 (0, 0))) (hcp : w.heap[cp]? = some (.cells #[.int .i64 p] 3 (0, 0))) (nj : some cj ≠ s.G.ownBlock) (np : some cp ≠ s.G.ownBlock) :
    Calls Try.prog 85 #[ptr cm, ptr cj, ptr cw, ptr cp] w fun e w' => e = .returned (ev 6 p jb 0) ∧ Moved w g s { m with given := m.given ++ [jb], judged := m.judged + 1, workers := m.workers.set j.toNat ⟨⟨1, 0, 0⟩⟩ } w' := by
  obtain ⟨AJ, cJ, AW, cW, AS, cS, AG, cG, AO, cO, rfl⟩ := hI.slices
  simp only [Value.slice.injEq] at hs
  obtain ⟨rfl, _, rfl⟩ := hs
  have HJD := Aside0.mk (show 0 ≤ m.judged ∧ m.judged ≤ 1000 from by have := hO.jd; have := hO.ct; have := hO.nx; have := hO.nj; omega)
  have HL := Aside0.mk (show (m.given.length : Int) ≤ 8 from by have := hO.ng; have := hO.pr; omega)
  have Ncj := Aside0.mk nj
  have Ncp := Aside0.mk np
  have Hcm := Aside0.mk (show ((w.alloc (.cells #[.int .i64 0, .int .i64 0, .int .i64 0, .int .i64 0] 42)).drew).heap[cm]? = some (.cells #[ptr g] 32 (0, 0)) from blk_alloc hcm _)
  have Hcj := Aside0.mk (show ((w.alloc (.cells #[.int .i64 0, .int .i64 0, .int .i64 0, .int .i64 0] 42)).drew).heap[cj]? = some (.cells #[.int .i64 jb] 3 (0, 0)) from blk_alloc hcj _)
  have Hcw := Aside0.mk (show ((w.alloc (.cells #[.int .i64 0, .int .i64 0, .int .i64 0, .int .i64 0] 42)).drew).heap[cw]? = some (.cells #[.pointer (some ⟨bW, j.toNat * 3, none⟩)] 119 (0, 0)) from blk_alloc hcw _)
  have Hcp := Aside0.mk (show ((w.alloc (.cells #[.int .i64 0, .int .i64 0, .int .i64 0, .int .i64 0] 42)).drew).heap[cp]? = some (.cells #[.int .i64 p] 3 (0, 0)) from blk_alloc hcp _)
  have HI := Aside0.mk ((hI.alloc (.cells #[.int .i64 0, .int .i64 0, .int .i64 0, .int .i64 0] 42)).drew)
  have HE := Aside0.mk (show ((w.alloc (.cells #[.int .i64 0, .int .i64 0, .int .i64 0, .int .i64 0] 42)).drew).heap[w.heap.size]? = some (.cells #[.int .i64 0, .int .i64 0, .int .i64 0, .int .i64 0] 42 (0, 0)) from heap_alloc_new w _)
  have HB := Aside0.mk (show Below w.heap.size w (w.alloc (.cells #[.int .i64 0, .int .i64 0, .int .i64 0, .int .i64 0] 42)).drew from below_drew (below_alloc (Below.refl _ _) _))
  have H01 := Aside0.mk (And.intro h0 h1)
  clear hI hO hcm hcj hcw hcp nj np h0 h1
  obtain ⟨e0, he0⟩ : ∃ e0, w.heap.size = e0 := ⟨_, rfl⟩
  have HZ := Aside0.mk he0
  rw [he0] at HE
  go_enter Try.func85, Try.ntmps85
  go_wp2
  (try rw [he0])
  clear he0
  refine start_ (n := 11) (S := fun w' => w'.heap[cm]? = some (.cells #[ptr g] 32 (0, 0)) ∧ w'.heap[cj]? = some (.cells #[.int .i64 jb] 3 (0, 0)) ∧ w'.heap[cw]? = some (.cells #[.pointer (some ⟨bW, j.toNat * 3, none⟩)] 119 (0, 0)) ∧ w'.heap[cp]? = some (.cells #[.int .i64 p] 3 (0, 0)) ∧ w'.heap[g]? = some (.cells (cellsM ⟨.slice AJ m.jobs.length cJ, .slice (some ⟨bW, 0, none⟩) m.workers.length cW, .slice AS m.sent.length cS, .slice AG m.given.length cG, .slice AO m.got.length cO⟩ m) 97 (0, 0)) ∧ w'.heap[e0]? = some (.cells #[.int .i64 0, .int .i64 0, .int .i64 0, .int .i64 0] 42 (0, 0))) (ds := [10]) #[false, false, false, false, false, false, false, false, false, false, false] (by kernel_rfl) rfl rfl ⟨Hcm.out, Hcj.out, Hcw.out, Hcp.out, HI.out.blk, HE.out⟩ (fun hHeld => ?_)
  generalize (w.alloc (.cells #[.int .i64 0, .int .i64 0, .int .i64 0, .int .i64 0] 42)).drew = W at Hcm Hcj Hcw Hcp HI HE HB hHeld ⊢
  refine take_ (i := 0) (N := (some 5)) (v := ?_) (a' := ?_) #[true, false, false, false, false, false, false, false, false, false, false] rfl rfl (by kernel_rfl) (fun _ _ _ h => h) (Or.inl ⟨by rfl, ?_⟩) hHeld ?_ ?_
  rotate_left
  · rintro w' ⟨s0, s1, s2, s3, s4, s5⟩
    have t0 : w'.cell? ⟨cm, 0, none⟩ = some (.pointer (some ⟨g, 0, none⟩)) := (blk_cell s0 0).trans rfl
    have t1 : w'.cell? ⟨cj, 0, none⟩ = some (.int .i64 jb) := (blk_cell s1 0).trans rfl
    have t9 : w'.cell? ⟨g, 10, none⟩ = some (.slice AG m.given.length cG) := (blk_cell s4 10).trans rfl
    go_simp
    with_reducible rfl
  rotate_left
  · simp only [Act.put, List.setIfInBounds_toArray, List.set_cons_zero, List.set_cons_succ, i64_w, i32_w]
    rfl
  refine take_ (i := 1) (N := (some 6)) (v := ?_) (a' := ?_) #[true, true, false, false, false, false, false, false, false, false, false] rfl rfl (by kernel_rfl) (fun _ _ _ h => h) (Or.inl ⟨by rfl, ?_⟩) hHeld ?_ ?_
  rotate_left
  · rintro w' ⟨s0, s1, s2, s3, s4, s5⟩
    have t0 : w'.cell? ⟨cm, 0, none⟩ = some (.pointer (some ⟨g, 0, none⟩)) := (blk_cell s0 0).trans rfl
    have t1 : w'.cell? ⟨cj, 0, none⟩ = some (.int .i64 jb) := (blk_cell s1 0).trans rfl
    have t9 : w'.cell? ⟨g, 10, none⟩ = some (.slice AG m.given.length cG) := (blk_cell s4 10).trans rfl
    go_simp
    with_reducible rfl
  rotate_left
  · simp only [Act.put, List.setIfInBounds_toArray, List.set_cons_zero, List.set_cons_succ, i64_w, i32_w]
    rfl
  refine pure_ (i := 2) (N := (some 7)) (v := ?_) (a' := ?_) #[true, true, true, false, false, false, false, false, false, false, false] rfl rfl (by kernel_rfl) (fun _ _ _ h => h) (Or.inl ⟨by rfl, ?_⟩) ?_ ?_
  rotate_left
  · intro w'
    go_simp
    with_reducible rfl
  rotate_left
  · simp only [Act.put, List.setIfInBounds_toArray, List.set_cons_zero, List.set_cons_succ, i64_w, i32_w]
    rfl
  refine pure_ (i := 3) (N := (some 8)) (v := ?_) (a' := ?_) #[true, true, true, true, false, false, false, false, false, false, false] rfl rfl (by kernel_rfl) (fun _ _ _ h => h) (Or.inl ⟨by rfl, ?_⟩) ?_ ?_
  rotate_left
  · intro w'
    go_simp
    with_reducible rfl
  rotate_left
  · simp only [Act.put, List.setIfInBounds_toArray, List.set_cons_zero, List.set_cons_succ, i64_w, i32_w]
    rfl
  refine take_ (i := 4) (N := (some 9)) (v := ?_) (a' := ?_) #[true, true, true, true, true, false, false, false, false, false, false] rfl rfl (by kernel_rfl) (fun _ _ _ h => h) (Or.inl ⟨by rfl, ?_⟩) hHeld ?_ ?_
  rotate_left
  · rintro w' ⟨s0, s1, s2, s3, s4, s5⟩
    have t0 : w'.cell? ⟨cm, 0, none⟩ = some (.pointer (some ⟨g, 0, none⟩)) := (blk_cell s0 0).trans rfl
    have t1 : w'.cell? ⟨cj, 0, none⟩ = some (.int .i64 jb) := (blk_cell s1 0).trans rfl
    have t9 : w'.cell? ⟨g, 10, none⟩ = some (.slice AG m.given.length cG) := (blk_cell s4 10).trans rfl
    go_simp
    with_reducible rfl
  rotate_left
  · simp only [Act.put, List.setIfInBounds_toArray, List.set_cons_zero, List.set_cons_succ, i64_w, i32_w]
    rfl
  refine take_ (i := 5) (N := (some 10)) (v := ?_) (a' := ?_) #[true, true, true, true, true, true, false, false, false, false, false] rfl rfl (by kernel_rfl) (fun _ _ _ h => h) (Or.inl ⟨by rfl, ?_⟩) hHeld ?_ ?_
  rotate_left
  · rintro w' ⟨s0, s1, s2, s3, s4, s5⟩
    have t0 : w'.cell? ⟨cm, 0, none⟩ = some (.pointer (some ⟨g, 0, none⟩)) := (blk_cell s0 0).trans rfl
    have t1 : w'.cell? ⟨cj, 0, none⟩ = some (.int .i64 jb) := (blk_cell s1 0).trans rfl
    have t9 : w'.cell? ⟨g, 10, none⟩ = some (.slice AG m.given.length cG) := (blk_cell s4 10).trans rfl
    go_simp
    with_reducible rfl
  rotate_left
  · simp only [Act.put, List.setIfInBounds_toArray, List.set_cons_zero, List.set_cons_succ, i64_w, i32_w]
    rfl
  refine one_ (i := 6) (N := (some 11)) #[true, true, true, true, true, true, true, false, false, false, false] rfl rfl (by kernel_rfl) (by decide) (fun K hK => ?_)
  refine value_ (w1 := ?_) (v := ?_) (by rfl) rfl ?_ ?_
  rotate_left 2
  · go_simp
    constructor
    · rfl
    · rfl
  refine hK.out _ _ ⟨blk_alloc Hcm.out _, blk_alloc Hcj.out _, blk_alloc Hcw.out _, blk_alloc Hcp.out _, blk_alloc HI.out.blk _, blk_alloc HE.out _⟩ (fun hHeld => ?_)
  clear hK K
  refine norm_ (a' := ?_) ?_ ?_
  rotate_left
  · show Act.put _ (some 11) _ = _
    simp only [Act.put, List.setIfInBounds_toArray, List.set_cons_zero, List.set_cons_succ, i64_w, i32_w]
    rfl
  refine one_ (i := 7) (N := (some 12)) #[true, true, true, true, true, true, true, true, false, false, false] rfl rfl (by kernel_rfl) (by decide) (fun K hK => ?_)
  refine Kd.R_append_step (Kd.int .i64) (w0 := W) 0 (by rfl) (.tmp 9) (.tmp 11) 24 3 (.int .i64 0) 8 rfl Try.underlying24 info3 rfl (by decide) (by omega) (.slice AG m.given.length cG) m.given jb [.int .i64 jb] (fun _ => True) (fun _ => False) rfl rfl ?aP (fun _ hk => hk.elim) ?aF ?aO ?aB ?aS ?aL ?_
  (case aP => exact rfl)
  (case aF => exact (fun _ _ => trivial))
  (case aO => exact Kd.R_mono HI.out.given (fun _ _ => trivial))
  (case aB => exact Below.refl 0 W)
  (case aS => exact Nat.zero_le _)
  (case aL => have := HL.out; omega)
  intro v1 w1 ho hb hgr hat
  obtain ⟨A1, c1, hv⟩ := Kd.R_slice ho
  rw [List.length_append, List.length_singleton] at hv
  subst hv
  obtain ⟨ob, om, oi, of_⟩ := app_G HI.out ho hgr hat
  have Ocm := Aside0.mk (blk_grown Hcm.out hgr (fun e => ne_typed HI.out.given Hcm.out (by decide) cm e rfl))
  have Ocj := Aside0.mk (blk_grown Hcj.out hgr (fun e => Ncj.out e))
  have Ocw := Aside0.mk (blk_grown Hcw.out hgr (fun e => ne_typed HI.out.given Hcw.out (by decide) cw e rfl))
  have Ocp := Aside0.mk (blk_grown Hcp.out hgr (fun e => Ncp.out e))
  have OE := Aside0.mk (blk_grown HE.out hgr (fun e => ne_typed HI.out.given HE.out (by decide) e0 e rfl))
  have OB := Aside0.mk ob
  have OM := Aside0.mk om
  have OI := Aside0.mk oi
  have OF := Aside0.mk of_
  clear ho hb hgr hat om oi of_
  refine hK.out _ _ ⟨Ocm.out, Ocj.out, Ocw.out, Ocp.out, OB.out, OE.out⟩ (fun hHeld => ?_)
  have q9 : w1.cell? ⟨g, 10, none⟩ = some (.slice AG m.given.length cG) := (blk_cell ob 10).trans rfl
  have r9 := blk_frozen ob 10
  clear hK K
  refine norm_ (a' := ?_) ?_ ?_
  rotate_left
  · show Act.put _ (some 12) _ = _
    simp only [Act.put, List.setIfInBounds_toArray, List.set_cons_zero, List.set_cons_succ, i64_w, i32_w]
    rfl
  refine pure_ (i := 8) (N := (some 13)) (v := ?_) (a' := ?_) #[true, true, true, true, true, true, true, true, true, false, false] rfl rfl (by kernel_rfl) (fun _ _ _ h => h) (Or.inl ⟨by rfl, ?_⟩) ?_ ?_
  rotate_left
  · intro w'
    go_simp
    with_reducible rfl
  rotate_left
  · simp only [Act.put, List.setIfInBounds_toArray, List.set_cons_zero, List.set_cons_succ, i64_w, i32_w]
    rfl
  refine pure_ (i := 9) (N := (some 14)) (v := ?_) (a' := ?_) #[true, true, true, true, true, true, true, true, true, true, false] rfl rfl (by kernel_rfl) (fun _ _ _ h => h) (Or.inl ⟨by rfl, ?_⟩) ?_ ?_
  rotate_left
  · intro w'
    go_simp
    with_reducible rfl
  rotate_left
  · simp only [Act.put, List.setIfInBounds_toArray, List.set_cons_zero, List.set_cons_succ, i64_w, i32_w]
    rfl
  refine last_ (i := 10) (N := none) #[true, true, true, true, true, true, true, true, true, true, true] rfl rfl (by kernel_rfl) (by decide) (fun K hK => ?_)
  refine skip_ (w1 := ?_) (by rfl) rfl ?_ ?_
  rotate_left
  · go_simp
    rfl
  refine hK.out _ _ ?_
  clear hK K
  refine done_ (by kernel_rfl) ?_
  have Pcm := Aside0.mk (blk_far Ocm.out (p := ⟨g, 10, none⟩) (blk_ne Ocm.out OB.out (by decide)) (.slice A1 (m.given.length + 1) c1))
  have Pcj := Aside0.mk (blk_far Ocj.out (p := ⟨g, 10, none⟩) (blk_ne Ocj.out OB.out (by decide)) (.slice A1 (m.given.length + 1) c1))
  have Pcw := Aside0.mk (blk_far Ocw.out (p := ⟨g, 10, none⟩) (blk_ne Ocw.out OB.out (by decide)) (.slice A1 (m.given.length + 1) c1))
  have Pcp := Aside0.mk (blk_far Ocp.out (p := ⟨g, 10, none⟩) (blk_ne Ocp.out OB.out (by decide)) (.slice A1 (m.given.length + 1) c1))
  have PE := Aside0.mk (blk_far OE.out (p := ⟨g, 10, none⟩) (blk_ne OE.out OB.out (by decide)) (.slice A1 (m.given.length + 1) c1))
  clear Ocm Ocj Ocw Ocp OE OB ob q9 r9 hHeld
  generalize w1.setCell ⟨g, 10, none⟩ (.slice A1 (m.given.length + 1) c1) = W2 at OI OM Pcm Pcj Pcw Pcp PE ⊢
  have hW := OI.out.works
  have row := wk_row hW j H01.out.1 H01.out.2
  have f0 : W2.frozen? ⟨bW, j.toNat * 3, none⟩ = false := (row 0 (by omega)).2
  have f1 := (row 1 (by omega)).2
  have f2 := (row 2 (by omega)).2
  obtain ⟨ad, ead, hx0, hx1, hx2⟩ := at_T99 (Kd.R_reads' hW).2.2 j H01.out.1 H01.out.2
  obtain rfl := Option.some.inj ead
  rw [add_plain] at hx0 hx1 hx2
  simp only [] at hx1 hx2
  have t0 : W2.cell? ⟨cm, 0, none⟩ = some (.pointer (some ⟨g, 0, none⟩)) := (blk_cell Pcm.out 0).trans rfl
  have t1 : W2.cell? ⟨cj, 0, none⟩ = some (.int .i64 jb) := (blk_cell Pcj.out 0).trans rfl
  have t2 : W2.cell? ⟨cw, 0, none⟩ = some (.pointer (some ⟨bW, j.toNat * 3, none⟩)) := (blk_cell Pcw.out 0).trans rfl
  have t3 : W2.cell? ⟨cp, 0, none⟩ = some (.int .i64 p) := (blk_cell Pcp.out 0).trans rfl
  have t11 : W2.cell? ⟨g, 11, none⟩ = some (.int .i64 m.judged) := (blk_cell OI.out.blk 11).trans rfl
  have fr11 := OI.out.free 11
  obtain ⟨cwc, ewc⟩ := Kd.R_typed hW bW rfl
  have n1 : ¬ cm = g := blk_ne Pcm.out OI.out.blk (by decide)
  have n2 : ¬ cj = g := blk_ne Pcj.out OI.out.blk (by decide)
  have n3 : ¬ cw = g := blk_ne Pcw.out OI.out.blk (by decide)
  have n4 : ¬ cp = g := blk_ne Pcp.out OI.out.blk (by decide)
  have n5 : ¬ bW = g := blk_ne ewc OI.out.blk (by decide)
  have n6 : ¬ e0 = g := blk_ne PE.out OI.out.blk (by decide)
  have o1 : ¬ cm = bW := blk_ne Pcm.out ewc (by decide)
  have o2 : ¬ cj = bW := blk_ne Pcj.out ewc (by decide)
  have o3 : ¬ cw = bW := blk_ne Pcw.out ewc (by decide)
  have o4 : ¬ cp = bW := blk_ne Pcp.out ewc (by decide)
  have o5 : ¬ e0 = bW := blk_ne PE.out ewc (by decide)
  have u0 : W2.cell? ⟨e0, 0, none⟩ = some (.int .i64 0) := (blk_cell PE.out 0).trans rfl
  have u1 : W2.cell? ⟨e0, 1, none⟩ = some (.int .i64 0) := (blk_cell PE.out 1).trans rfl
  have u2 : W2.cell? ⟨e0, 2, none⟩ = some (.int .i64 0) := (blk_cell PE.out 2).trans rfl
  have u3 : W2.cell? ⟨e0, 3, none⟩ = some (.int .i64 0) := (blk_cell PE.out 3).trans rfl
  have v0 := blk_frozen PE.out 0
  have v1 := blk_frozen PE.out 1
  have v2 := blk_frozen PE.out 2
  have v3 := blk_frozen PE.out 3
  have jd := HJD.out
  clear hW row ead cwc ewc
  go_wp2
  have I3 := OI.out.set 11 (.int .i64 (m.judged + 1)) { m with given := m.given ++ [jb], judged := m.judged + 1 } rfl rfl rfl rfl rfl rfl
  have M1 := (Moved.after HB.out OM.out).set 11 (.int .i64 (m.judged + 1)) { m with given := m.given ++ [jb], judged := m.judged + 1 } (fun _ => rfl) rfl rfl rfl rfl rfl
  obtain ⟨ow, og⟩ := own_wk3 I3.works j H01.out.1 H01.out.2 ⟨1, 0, 0⟩
  have M2' := Moved.comp M1 (Moved.wk I3 rfl ow og) rfl (fun k hk => (OF.out k hk).imp id (fun h => Nat.le_trans HB.out.size h))
  have PE2 := blk_far PE.out (p := ⟨g, 11, none⟩) n6 (.int .i64 (m.judged + 1))
  have PE3 := blk_far (blk_far (blk_far PE2 (p := ⟨bW, j.toNat * 3, none⟩) o5 (.int .i64 1)) (p := ⟨bW, j.toNat * 3 + 1, none⟩) o5 (.int .i64 0)) (p := ⟨bW, j.toNat * 3 + 2, none⟩) o5 (.int .i64 0)
  obtain ⟨M3, H3⟩ := M2'.ev PE3 rfl (Nat.le_of_eq HZ.out) (.int .i64 6) (.int .i64 p) (.int .i64 jb) (.int .i64 0)
  exact bodyPost_ret (results_cell_row rfl _ _ e0 42 _ (0, 0) _ rfl H3 Try.underlying42 rfl (by kernel_rfl)) rfl ⟨rfl, M3⟩
end Go.Proofs.Ythcchpbidbbiaaa.Sc
namespace Go.Proofs.Ythcchpbidbbiaaa.Sc
open Go.RowKit Go.Proofs.YthcchpbidbbiaaaW.PrintWords Go.Proofs.YthcchpbidbbiaaaW.PrintLast Go.Proofs.YthcchpbidbbiaaaW.PrintMore Go.Proofs.Ythcchpbidbbiaaa.PSchedSide
set_option linter.unusedVariables false
theorem cut_one (A : Option Addr) (c : Nat) (xs : List Int) (hl : 1 ≤ xs.length) (hc : xs.length ≤ c) :
    ∃ A' : Option Addr, (∀ W : World, (Instr.slice 24 (.slice A xs.length c) (some (.int .i64 1)) none none).run Try.prog W = .ok (.slice A' (xs.drop 1).length (c - 1)) W) ∧
      (∀ w : World, Kd.C (Kd.int .i64) w A xs.length xs → Kd.C (Kd.int .i64) w A' (xs.drop 1).length (xs.drop 1)) := by
  obtain ⟨i0, hi, hzz⟩ := Option.map_eq_some_iff.1 info3
  simp only [Prod.mk.injEq] at hzz
  obtain ⟨hz0, hz1, hz2⟩ := hzz
  have h := cut_from (P := Try.prog) 24 3 .i64 Try.underlying24 hi 1 hz1 A xs.length c 1 (by decide) (by omega)
  refine ⟨if c = 1 then A else A.map (·.add (1 * (Kd.int .i64).sz)), fun W => ?_, fun w hC => Kd.C_drop hC hl hc⟩
  rw [h W]
  simp
  rfl
end Go.Proofs.Ythcchpbidbbiaaa.Sc
namespace Go.Proofs.Ythcchpbidbbiaaa.Sc
open Go.RowKit Go.Proofs.YthcchpbidbbiaaaW.PrintWords Go.Proofs.YthcchpbidbbiaaaW.PrintLast Go.Proofs.YthcchpbidbbiaaaW.PrintMore Go.Proofs.Ythcchpbidbbiaaa.PSchedSide
attribute [local go_sem] max2_int min2_int max_two min_two
set_option linter.unusedVariables false
set_option linter.unusedSimpArgs false
/-- How many workers work. -/
def working (xs : List S99) : Int := (xs.filter (fun x => x.f0.f0 = 2)).length
/-- The worker of the process p has taken the job q, which stood first. -/
def tookM (m : Mach) (p q : Int) (rest : List Int) : Mach :=
  { m with sent := rest, workers := m.workers.set (p - 1).toNat ⟨⟨2, q, rd m.jobs q⟩⟩, peak := max m.peak (working (m.workers.set (p - 1).toNat ⟨⟨2, q, rd m.jobs q⟩⟩)) }
set_option maxHeartbeats 8000000 in
set_option maxRecDepth 1000000 in
theorem takes_calls (w : World) (g : Nat) (s : Sh) (m : Mach) (p q : Int) (rest : List Int) (bW cX : Nat) (hI : IsM w g s m) (hO : Ok m) (hs : s.W = .slice (some ⟨bW, 0, none⟩) m.workers.length cX) (h0 : 1 ≤ p) (h1 : p ≤ m.workers.length) (hq : m.sent = q :: rest) :
    Calls Try.prog 83 #[.pointer (some ⟨g, 0, none⟩), .int .i64 p] w fun e w' => e = .returned (ev 4 p q 0) ∧ Moved w g s (tookM m p q rest) w' := by
  obtain ⟨AJ, cJ, AW, cW, AS, cS, AG, cG, AO, cO, rfl⟩ := hI.slices
  simp only [Value.slice.injEq] at hs
  obtain ⟨rfl, _, rfl⟩ := hs
  have hcS : m.sent.length ≤ cS := (Kd.R_reads' hI.sent).2.1
  have hlen : 1 ≤ m.sent.length := by rw [hq]; simp
  obtain ⟨A', hcut, hCut⟩ := cut_one AS cS m.sent hlen hcS
  have hdrop : m.sent.drop 1 = rest := by rw [hq]; rfl
  rw [hdrop] at hcut hCut
  obtain ⟨bS, cS', hS⟩ := own_form hI.sent (by omega)
  simp only [Value.slice.injEq] at hS
  obtain ⟨rfl, _, rfl⟩ := hS
  have e5 := own_int hI.sent 0 (by decide) (by omega)
  have hq0 : rd m.sent 0 = q := by rw [hq]; rfl
  rw [hq0] at e5
  have e6 : w.cell? ⟨bS, 0, none⟩ = some (.int .i64 q) := e5
  have i1 := eq_true (show (0 : Int) < (m.sent.length : Int) by omega)
  have HI := Aside0.mk hI
  obtain ⟨x0, x1, x2, x3, x4, x5, x6, x7, x8, x9, x10, x11, x12, x13, x14, x15, x16⟩ := hI.cells
  have hg := hI.lt
  have lS : bS < w.heap.size := hI.sent.lt bS rfl
  have HQ := Aside0.mk hq
  have HO := Aside0.mk hO
  have HCUT := Aside0.mk hCut
  have H01 := Aside0.mk (And.intro h0 h1)
  have HI1 := Aside0.mk (hI.alloc (.cells #[.int .i64 0, .int .i64 0, .int .i64 0, .int .i64 0] 42))
  have HC1 := Aside0.mk (hCut _ (Kd.R_reads' (hI.alloc (.cells #[.int .i64 0, .int .i64 0, .int .i64 0, .int .i64 0] 42)).sent).2.2)
  have HL := Aside0.mk (show rest.length * 8 ≤ 140737488355328 from by have h7 := hO.pj; have h9 := hO.ns; rw [hq, List.length_cons] at h9; omega)
  have HE := Aside0.mk (heap_alloc_new w (.cells #[.int .i64 0, .int .i64 0, .int .i64 0, .int .i64 0] 42))
  have HNE := Aside0.mk (show ¬ w.heap.size = g from by omega)
  clear hI hq hO hdrop e5 hq0 hCut h0 h1
  go_enter Try.func83, Try.ntmps83
  go_wp2_with (first | (go_at_call 48; (with_reducible refine (clone_int A' (cS - 1) rest _ HC1.out HL.out).mono ?_); rintro e w1 ⟨v1, rfl, ho, hb⟩; obtain ⟨A1, c1, hv⟩ := Kd.R_slice ho; subst hv; obtain ⟨ob, om, oi, of_⟩ := put_S HI1.out (Kd.R_lower ho (Nat.zero_le _)) (grown_of_below hb _) (fun k hk => .inr (Kd.R_base ho k hk.symm)); have q9 : w1.cell? ⟨g, 9, none⟩ = some (.slice (some ⟨bS, 0, none⟩) m.sent.length cS) := (blk_cell ob 9).trans rfl; have r9 := blk_frozen ob 9; have OE := Aside0.mk (blk_far ((hb.block _ (blk_lt HE.out)).trans HE.out) (p := ⟨g, 9, none⟩) HNE.out (.slice A1 rest.length c1)); have OM := Aside0.mk om; have OI := Aside0.mk oi; have OF := Aside0.mk of_; clear ho hb ob om oi of_))
  generalize w1.setCell ⟨g, 9, none⟩ (.slice A1 rest.length c1) = W2 at OE OM OI ⊢
  obtain ⟨j, hj⟩ : ∃ j, p - 1 = j := ⟨_, rfl⟩
  have b8 : (m.workers.length : Int) ≤ 8 := by have := HO.out.nw; have := HO.out.pw; omega
  have hjw : IntKind.i64.wrap (p - 1) = j := by rw [IntWalk.i64_in _ ⟨by have := H01.out; omega, by have := H01.out; omega⟩]; exact hj
  have hj0 : 0 ≤ j := by have := H01.out; omega
  have hj1 : j < (m.workers.length : Int) := by have := H01.out; omega
  have hqr := HO.out.ss q (by rw [HQ.out]; simp)
  obtain ⟨bJ, cJ2, hJ⟩ := own_form OI.out.jobs (by show 0 < m.jobs.length; omega)
  simp only [Value.slice.injEq] at hJ
  obtain ⟨rfl, _, rfl⟩ := hJ
  have e7 : W2.cell? ⟨bJ, q.toNat, none⟩ = some (.int .i64 (rd m.jobs q)) := own_int OI.out.jobs q hqr.1 hqr.2
  obtain ⟨x, hx⟩ : ∃ x, rd m.jobs q = x := ⟨_, rfl⟩
  rw [hx] at e7
  have hW := OI.out.works
  have row := wk_row hW j hj0 hj1
  have f0 : W2.frozen? ⟨bW, j.toNat * 3, none⟩ = false := (row 0 (by omega)).2
  have f1 := (row 1 (by omega)).2
  have f2 := (row 2 (by omega)).2
  obtain ⟨ad, ead, hx0, hx1, hx2⟩ := at_T99 (Kd.R_reads' hW).2.2 j hj0 hj1
  obtain rfl := Option.some.inj ead
  rw [add_plain] at hx0 hx1 hx2
  simp only [] at hx1 hx2
  have z3 : W2.cell? ⟨g, 3, none⟩ = some (.slice (some ⟨bJ, 0, none⟩) m.jobs.length cJ) := (blk_cell OI.out.blk 3).trans rfl
  have z8 : W2.cell? ⟨g, 8, none⟩ = some (.slice (some ⟨bW, 0, none⟩) m.workers.length cW) := (blk_cell OI.out.blk 8).trans rfl
  have a0 := eq_true hj0
  have a1 := eq_true hj1
  have a2 := eq_true hqr.1
  have a3 := eq_true hqr.2
  have OW := Aside0.mk (own_wk3 hW j hj0 hj1 ⟨2, q, x⟩)
  have HX := Aside0.mk hx
  have HJ := Aside0.mk hj
  clear x0 x1 x2 x3 x4 x5 x6 x7 x8 x9 x10 x11 x12 x13 x14 x15 x16 hx hj hqr hj0 hj1 hW row ead e6 hcut i1
  go_region
  have I3 := Aside0.mk (IsM.writeW OI.out (fun k hk hne => OW.out.2.block k hk (fun e => hne e)) OW.out.1).drew
  have M3 := Aside0.mk (Moved.comp (Moved.after (below_alloc (Below.refl _ _) _) OM.out) (Moved.wk OI.out rfl OW.out.1 OW.out.2) rfl (fun k hk => (OF.out k hk).imp id (fun h => Nat.le_trans (by simp) h))).drew
  have HE3 := Aside0.mk (blk_grown (g := w.heap.size) OE.out OW.out.2 (fun e => by
    obtain ⟨cc, ec⟩ := Kd.R_typed OI.out.works bW rfl
    injection e with e
    exact blk_ne OE.out ec (by decide) e))
  clear z3 z8 f0 f1 f2 hx0 hx1 hx2 e7 OI OM OE OW
  generalize ((W2.setCell ⟨bW, j.toNat * 3, none⟩ (.int .i64 2)).setCell ⟨bW, j.toNat * 3 + 1, none⟩ (.int .i64 q)).setCell ⟨bW, j.toNat * 3 + 2, none⟩ (.int .i64 x) = W3 at I3 M3 HE3 ⊢
  have z8 : W3.drew.cell? ⟨g, 8, none⟩ = some (.slice (some ⟨bW, 0, none⟩) m.workers.length cW) := (blk_cell I3.out.blk 8).trans rfl
  obtain ⟨ws, hws⟩ : ∃ ws, m.workers.set j.toNat ⟨⟨2, q, x⟩⟩ = ws := ⟨_, rfl⟩
  have hwl : m.workers.length = ws.length := by rw [← hws]; simp
  simp only [hws] at I3 M3
  have HWS := Aside0.mk hws
  have IW := Aside0.mk (show Kd.C k99 W3.drew (some ⟨bW, 0, none⟩) ws.length ws from (by have h := (Kd.R_reads' I3.out.works).2.2; exact h))
  rw [hwl] at z8
  have B8 := Aside0.mk (show (ws.length : Int) ≤ 8 from by rw [← hwl]; exact b8)
  clear hws hwl
  go_wp2
  go_loopw [6, 46] (fun n i wr => ∃ k : Nat, i = .int .i64 k ∧ n = .int .i64 (working (ws.take k)) ∧ k ≤ ws.length ∧ Below W3.drew.heap.size W3.drew wr) (fun _ i _ => ws.length - (intOf i).toNat)
  case atStart => exact ⟨0, rfl, by simp [working], Nat.zero_le _, Below.refl _ _⟩
  case round =>
    obtain ⟨k, rfl, rfl, hk, hb⟩ := hrel
    have HB := Aside0.mk hb
    have HK := Aside0.mk hk
    clear hb hk
    by_cases hlt : k < ws.length
    · have p0 := eq_true (show (k : Int) < (ws.length : Int) by omega)
      obtain ⟨ad, ead, hy0, hy1, hy2⟩ := at_T99 IW.out k (Int.natCast_nonneg k) (by omega)
      obtain rfl := Option.some.inj ead
      rw [add_plain] at hy0 hy1 hy2
      simp only [Int.toNat_natCast] at hy0 hy1 hy2
      replace hy0 := pw_cell_below HB.out hy0
      replace hy1 := pw_cell_below HB.out hy1
      replace hy2 := pw_cell_below HB.out hy2
      have ht : ws.take (k + 1) = ws.take k ++ [rd_T99 ws k] := by
        rw [List.take_succ_eq_append_getElem hlt]
        simp [rd_T99, hlt]
      have B := B8.out
      have HT := Aside0.mk ht
      clear ht ead
      by_cases h2 : (rd_T99 ws k).f0.f0 = 2
      · rw [h2] at hy0
        have HN := Aside0.mk (show working (ws.take (k + 1)) = working (ws.take k) + 1 from by rw [HT.out]; simp [working, List.filter_append, h2])
        have hwb : 0 ≤ working (ws.take k) ∧ working (ws.take k) ≤ 8 := by
          unfold working
          have := List.length_filter_le (fun x : S99 => decide (x.f0.f0 = 2)) (ws.take k)
          have := List.length_take_le k ws
          omega
        clear h2
        go_wp2
        go_roundw
        case rel => exact ⟨k + 1, by go_num, by rw [HN.out], by omega, below_alloc HB.out _⟩
        case measure => simp [intOf]; omega
      · have b2 : ((rd_T99 ws k).f0.f0 == 2) = false := beq_eq_false_iff_ne.mpr h2
        have HN := Aside0.mk (show working (ws.take (k + 1)) = working (ws.take k) from by rw [HT.out]; simp [working, List.filter_append, h2])
        clear h2
        go_wp2
        go_roundw
        case rel => exact ⟨k + 1, by go_num, by rw [HN.out], by omega, below_alloc HB.out _⟩
        case measure => simp [intOf]; omega
    · have p0 : decide ((k : Int) < (ws.length : Int)) = false := decide_eq_false (by omega)
      have hkk : k = ws.length := by have := HK.out; omega
      subst hkk
      rw [List.take_length]
      have I4 := I3.out.below HB.out
      have E4 := Aside0.mk ((HB.out.block _ (blk_lt HE3.out)).trans HE3.out)
      have M4 := Aside0.mk (Moved.comp M3.out (.of I4 rfl (fun _ h => .inl h) (Kept.of_below HB.out _) HB.out.os HB.out.tape HB.out.output) rfl (fun k hk => (OF.out k hk).imp id (fun h => Nat.le_trans (by simp) h)))
      have z16 : wr.cell? ⟨g, 16, none⟩ = some (.int .i64 m.peak) := (blk_cell I4.blk 16).trans rfl
      have f16 := I4.free 16
      have ne : ¬ w.heap.size = g := HNE.out
      have u0 : wr.cell? ⟨w.heap.size, 0, none⟩ = some (.int .i64 0) := (blk_cell E4.out 0).trans rfl
      have u1 : wr.cell? ⟨w.heap.size, 1, none⟩ = some (.int .i64 0) := (blk_cell E4.out 1).trans rfl
      have u2 : wr.cell? ⟨w.heap.size, 2, none⟩ = some (.int .i64 0) := (blk_cell E4.out 2).trans rfl
      have u3 : wr.cell? ⟨w.heap.size, 3, none⟩ = some (.int .i64 0) := (blk_cell E4.out 3).trans rfl
      have v0 := blk_frozen E4.out 0
      have v1 := blk_frozen E4.out 1
      have v2 := blk_frozen E4.out 2
      have v3 := blk_frozen E4.out 3
      have HT : ∀ y, max m.peak (working ws) = y → tookM m p q rest = { m with sent := rest, workers := ws, peak := y } := by
        intro y hy
        unfold tookM
        rw [HX.out, HJ.out, HWS.out, hy]
      obtain ⟨wk, hwk⟩ : ∃ wk, working ws = wk := ⟨_, rfl⟩
      rw [hwk]
      have fin : ∀ y, max m.peak (working ws) = y → Moved w g ⟨.slice (some ⟨bJ, 0, none⟩) m.jobs.length cJ, .slice (some ⟨bW, 0, none⟩) m.workers.length cW, .slice (some ⟨bS, 0, none⟩) m.sent.length cS, .slice AG m.given.length cG, .slice AO m.got.length cO⟩ (tookM m p q rest) (((((wr.setCell ⟨g, 16, none⟩ (.int .i64 y)).setCell ⟨w.heap.size, 0, none⟩ (.int .i64 4)).setCell ⟨w.heap.size, 1, none⟩ (.int .i64 p)).setCell ⟨w.heap.size, 2, none⟩ (.int .i64 q)).setCell ⟨w.heap.size, 3, none⟩ (.int .i64 0)) ∧ (((((wr.setCell ⟨g, 16, none⟩ (.int .i64 y)).setCell ⟨w.heap.size, 0, none⟩ (.int .i64 4)).setCell ⟨w.heap.size, 1, none⟩ (.int .i64 p)).setCell ⟨w.heap.size, 2, none⟩ (.int .i64 q)).setCell ⟨w.heap.size, 3, none⟩ (.int .i64 0)).heap[w.heap.size]? = some (.cells #[.int .i64 4, .int .i64 p, .int .i64 q, .int .i64 0] 42 (0, 0)) := by
        intro y hy
        rw [HT y hy]
        have M5 := M4.out.set 16 (.int .i64 y) { m with sent := rest, workers := ws, peak := y } (fun _ => rfl) rfl rfl rfl rfl rfl
        exact M5.ev (blk_far E4.out (p := ⟨g, 16, none⟩) HNE.out (.int .i64 y)) rfl (Nat.le_refl _) _ _ _ _
      have FIN := Aside0.mk fin
      clear fin HT I4
      by_cases hmx : m.peak < wk
      · have hd : decide (m.peak < wk) = true := decide_eq_true hmx
        have hy := Aside0.mk (show max m.peak (working ws) = wk from by rw [hwk]; omega)
        clear hwk
        go_wp2
        obtain ⟨M6, H6⟩ := FIN.out wk hy.out
        exact bodyPost_ret (results_cell_row rfl _ _ w.heap.size 42 _ (0, 0) _ rfl H6 Try.underlying42 rfl (by kernel_rfl)) rfl ⟨rfl, M6⟩
      · have hd : decide (m.peak < wk) = false := decide_eq_false hmx
        have hy := Aside0.mk (show max m.peak (working ws) = m.peak from by rw [hwk]; omega)
        clear hwk
        go_wp2
        obtain ⟨M6, H6⟩ := FIN.out m.peak hy.out
        exact bodyPost_ret (results_cell_row rfl _ _ w.heap.size 42 _ (0, 0) _ rfl H6 Try.underlying42 rfl (by kernel_rfl)) rfl ⟨rfl, M6⟩
end Go.Proofs.Ythcchpbidbbiaaa.Sc
namespace Go.Proofs.Ythcchpbidbbiaaa.Sc
open Go.RowKit Go.Proofs.YthcchpbidbbiaaaW.PrintWords Go.Proofs.YthcchpbidbbiaaaW.PrintLast Go.Proofs.YthcchpbidbbiaaaW.PrintMore Go.Proofs.Ythcchpbidbbiaaa.PSchedSide
set_option linter.unusedVariables false
set_option linter.unusedSimpArgs false
set_option maxHeartbeats 4000000 in
set_option maxRecDepth 1000000 in
theorem do82 (w : World) (g : Nat) (s : Sh) (m : Mach) (p q : Int) (rest : List Int) (bW cX cm cp : Nat) (hI : IsM w g s m) (hO : Ok m) (hs : s.W = .slice (some ⟨bW, 0, none⟩) m.workers.length cX) (h0 : 1 ≤ p) (h1 : p ≤ m.workers.length) (hq : m.sent = q :: rest)
    (hcm : w.heap[cm]? = some (.cells #[ptr g] 32 (0, 0))) (hcp : w.heap[cp]? = some (.cells #[.int .i64 p] 3 (0, 0))) :
    Calls Try.prog 82 #[ptr cm, ptr cp] w fun e w' => e = .returned (ev 4 p q 0) ∧ Moved w g s (tookM m p q rest) w' := by
  have HI := Aside0.mk (hI.alloc (.cells #[.int .i64 0, .int .i64 0, .int .i64 0, .int .i64 0] 42))
  have HB := Aside0.mk (below_alloc (Below.refl w.heap.size w) (.cells #[.int .i64 0, .int .i64 0, .int .i64 0, .int .i64 0] 42))
  have HO := Aside0.mk hO
  have HQ := Aside0.mk hq
  have HS := Aside0.mk hs
  have HP := Aside0.mk (And.intro h0 h1)
  have hE := heap_alloc_new w (.cells #[.int .i64 0, .int .i64 0, .int .i64 0, .int .i64 0] 42)
  have hnf : ∀ k, (Foot g s k ∨ some k = s.J.ownBlock) → k ≠ w.heap.size := HI.out.type_ne hE (by decide) (by decide) (by decide)
  have HE := Aside0.mk hE
  have HN := Aside0.mk hnf
  have e1 : (w.alloc (.cells #[.int .i64 0, .int .i64 0, .int .i64 0, .int .i64 0] 42)).cell? ⟨cm, 0, none⟩ = some (.pointer (some ⟨g, 0, none⟩)) := (blk_cell (blk_alloc hcm (.cells #[.int .i64 0, .int .i64 0, .int .i64 0, .int .i64 0] 42)) 0).trans rfl
  have e2 : (w.alloc (.cells #[.int .i64 0, .int .i64 0, .int .i64 0, .int .i64 0] 42)).cell? ⟨cp, 0, none⟩ = some (.int .i64 p) := (blk_cell (blk_alloc hcp (.cells #[.int .i64 0, .int .i64 0, .int .i64 0, .int .i64 0] 42)) 0).trans rfl
  clear hI hO hq hs h0 h1 hE hnf hcm hcp
  go_enter Try.func82, Try.ntmps82
  go_wp2_with (first | (go_at_call 83; (with_reducible refine (takes_calls _ g s m p q rest bW cX HI.out HO.out HS.out HP.out.1 HP.out.2 HQ.out).mono ?_); rintro e w1 ⟨rfl, hM⟩; obtain ⟨⟨s1, i1, j1, f1⟩, k1, o1, t1, p1⟩ := hM; have HE1 := Aside0.mk ((k1.2 w.heap.size (blk_lt HE.out) (fun hf => HN.out _ (.inl hf) rfl)).trans HE.out); have HM := Aside0.mk (show Moved (w.alloc (.cells #[.int .i64 0, .int .i64 0, .int .i64 0, .int .i64 0] 42)) g s (tookM m p q rest) w1 from ⟨⟨s1, i1, j1, f1⟩, k1, o1, t1, p1⟩); clear i1 j1 f1 k1 o1 t1 p1; have u0 : w1.cell? ⟨w.heap.size, 0, none⟩ = some (.int .i64 0) := (blk_cell HE1.out 0).trans rfl; have u1 : w1.cell? ⟨w.heap.size, 1, none⟩ = some (.int .i64 0) := (blk_cell HE1.out 1).trans rfl; have u2 : w1.cell? ⟨w.heap.size, 2, none⟩ = some (.int .i64 0) := (blk_cell HE1.out 2).trans rfl; have u3 : w1.cell? ⟨w.heap.size, 3, none⟩ = some (.int .i64 0) := (blk_cell HE1.out 3).trans rfl; have v0 := blk_frozen HE1.out 0; have v1 := blk_frozen HE1.out 1; have v2 := blk_frozen HE1.out 2; have v3 := blk_frozen HE1.out 3; unfold ev))
  obtain ⟨M3, H3⟩ := (Moved.after HB.out HM.out).ev HE1.out rfl (Nat.le_refl _) (.int .i64 4) (.int .i64 p) (.int .i64 q) (.int .i64 0)
  exact bodyPost_ret (results_cell_row rfl _ _ w.heap.size 42 _ (0, 0) _ rfl H3 Try.underlying42 rfl (by kernel_rfl)) rfl ⟨rfl, M3⟩
set_option maxHeartbeats 8000000 in
set_option maxRecDepth 1000000 in
theorem do88 (w : World) (g : Nat) (s : Sh) (m : Mach) (p q : Int) (rest : List Int) (c cp : Nat) (hI : IsM w g s m) (hO : Ok m) (hq : m.given = q :: rest) (hc : w.heap[c]? = some (.cells #[ptr g] 32 (0, 0))) (hcp : w.heap[cp]? = some (.cells #[.int .i64 p] 3 (0, 0))) (hpo : some cp ≠ s.O.ownBlock) :
    Calls Try.prog 88 #[ptr c, ptr cp] w fun e w' => e = .returned (ev 9 p q 0) ∧ Moved w g s { m with given := rest, got := m.got ++ [q] } w' := by
  obtain ⟨AJ, cJ, AW, cW, AS, cS, AG, cG, AO, cO, rfl⟩ := hI.slices
  have hcG : m.given.length ≤ cG := (Kd.R_reads' hI.given).2.1
  have hlen : 1 ≤ m.given.length := by rw [hq]; simp
  obtain ⟨A', hcut, hCut⟩ := cut_one AG cG m.given hlen hcG
  have hdrop : m.given.drop 1 = rest := by rw [hq]; rfl
  rw [hdrop] at hcut hCut
  obtain ⟨bG, cG', hG⟩ := own_form hI.given (by omega)
  simp only [Value.slice.injEq] at hG
  obtain ⟨rfl, _, rfl⟩ := hG
  have i1 := eq_true (show (0 : Int) < (m.given.length : Int) by omega)
  have HL := Aside0.mk (show rest.length * 8 ≤ 140737488355328 from by have h7 := hO.pr; have h9 := hO.ng; rw [hq, List.length_cons] at h9; omega)
  have HG := Aside0.mk (show (m.got.length : Int) ≤ 1000 from by have := hO.jd; have := hO.ct; have := hO.nx; have := hO.nj; omega)
  have HI := Aside0.mk (hI.alloc (.cells #[.int .i64 0, .int .i64 0, .int .i64 0, .int .i64 0] 42))
  have e5 := own_int HI.out.given 0 (by decide) (by omega)
  have hq0 : rd m.given 0 = q := by rw [hq]; rfl
  rw [hq0] at e5
  have e6 : (w.alloc (.cells #[.int .i64 0, .int .i64 0, .int .i64 0, .int .i64 0] 42)).cell? ⟨bG, 0, none⟩ = some (.int .i64 q) := e5
  have e7 : (w.alloc (.cells #[.int .i64 0, .int .i64 0, .int .i64 0, .int .i64 0] 42)).cell? ⟨g, 10, none⟩ = some (.slice (some ⟨bG, 0, none⟩) m.given.length cG) := (blk_cell HI.out.blk 10).trans rfl
  have e8 : (w.alloc (.cells #[.int .i64 0, .int .i64 0, .int .i64 0, .int .i64 0] 42)).cell? ⟨c, 0, none⟩ = some (.pointer (some ⟨g, 0, none⟩)) := (blk_cell (blk_alloc hc (.cells #[.int .i64 0, .int .i64 0, .int .i64 0, .int .i64 0] 42)) 0).trans rfl
  have HC := Aside0.mk (blk_alloc hc (.cells #[.int .i64 0, .int .i64 0, .int .i64 0, .int .i64 0] 42))
  have HP := Aside0.mk (blk_alloc hcp (.cells #[.int .i64 0, .int .i64 0, .int .i64 0, .int .i64 0] 42))
  have HE := Aside0.mk (heap_alloc_new w (.cells #[.int .i64 0, .int .i64 0, .int .i64 0, .int .i64 0] 42))
  have HB := Aside0.mk (below_alloc (Below.refl w.heap.size w) (.cells #[.int .i64 0, .int .i64 0, .int .i64 0, .int .i64 0] 42))
  have HON := Aside0.mk hpo
  have HQ := Aside0.mk hq
  have HCC := Aside0.mk (hCut _ (Kd.R_reads' HI.out.given).2.2)
  clear hI hO hc hcp hpo hq hdrop e5 hq0 hCut hcG
  obtain ⟨e0, he0⟩ : ∃ e0, w.heap.size = e0 := ⟨_, rfl⟩
  have HZ := Aside0.mk he0
  rw [he0] at HE
  go_enter Try.func88, Try.ntmps88
  go_wp2
  (try rw [he0])
  clear he0
  have HI' := Aside0.mk HI.out.drew
  have HC1 := Aside0.mk (show Kd.C (Kd.int .i64) (w.alloc (.cells #[.int .i64 0, .int .i64 0, .int .i64 0, .int .i64 0] 42)).drew A' rest.length rest from HCC.out)
  have HB' := Aside0.mk (below_drew HB.out)
  have HC' := Aside0.mk (show ((w.alloc (.cells #[.int .i64 0, .int .i64 0, .int .i64 0, .int .i64 0] 42)).drew).heap[c]? = _ from HC.out)
  have HP' := Aside0.mk (show ((w.alloc (.cells #[.int .i64 0, .int .i64 0, .int .i64 0, .int .i64 0] 42)).drew).heap[cp]? = _ from HP.out)
  have HE' := Aside0.mk (show ((w.alloc (.cells #[.int .i64 0, .int .i64 0, .int .i64 0, .int .i64 0] 42)).drew).heap[e0]? = _ from HE.out)
  clear HI HCC HB HC HP HE e6 e7 e8 i1
  have HI := HI'
  have HB := HB'
  have HC := HC'
  have HP := HP'
  have HE := HE'
  clear HI' HB' HC' HP' HE'
  refine start_ (n := 10) (S := fun w' => w'.heap[c]? = some (.cells #[ptr g] 32 (0, 0)) ∧ w'.heap[g]? = some (.cells (cellsM ⟨.slice AJ m.jobs.length cJ, .slice AW m.workers.length cW, .slice AS m.sent.length cS, .slice (some ⟨bG, 0, none⟩) m.given.length cG, .slice AO m.got.length cO⟩ m) 97 (0, 0))) (ds := [9]) #[false, false, false, false, false, false, false, false, false, false] (by kernel_rfl) rfl rfl ⟨HC.out, HI.out.blk⟩ (fun hHeld => ?_)
  generalize (w.alloc (.cells #[.int .i64 0, .int .i64 0, .int .i64 0, .int .i64 0] 42)).drew = W at HC HP HI HE HB HC1 hHeld ⊢
  refine take_ (i := 0) (N := (some 10)) (v := ?_) (a' := ?_) #[true, false, false, false, false, false, false, false, false, false] rfl rfl (by kernel_rfl) (fun _ _ _ h => h) (Or.inl ⟨by rfl, ?_⟩) hHeld ?_ ?_
  rotate_left
  · rintro w' ⟨s0, s1⟩
    have t0 : w'.cell? ⟨c, 0, none⟩ = some (.pointer (some ⟨g, 0, none⟩)) := (blk_cell s0 0).trans rfl
    have t10 : w'.cell? ⟨g, 10, none⟩ = some (.slice (some ⟨bG, 0, none⟩) m.given.length cG) := (blk_cell s1 10).trans rfl
    go_simp
    with_reducible rfl
  rotate_left
  · simp only [Act.put, List.setIfInBounds_toArray, List.set_cons_zero, List.set_cons_succ, i64_w, i32_w]
    rfl
  refine take_ (i := 1) (N := (some 11)) (v := ?_) (a' := ?_) #[true, true, false, false, false, false, false, false, false, false] rfl rfl (by kernel_rfl) (fun _ _ _ h => h) (Or.inl ⟨by rfl, ?_⟩) hHeld ?_ ?_
  rotate_left
  · rintro w' ⟨s0, s1⟩
    have t0 : w'.cell? ⟨c, 0, none⟩ = some (.pointer (some ⟨g, 0, none⟩)) := (blk_cell s0 0).trans rfl
    have t10 : w'.cell? ⟨g, 10, none⟩ = some (.slice (some ⟨bG, 0, none⟩) m.given.length cG) := (blk_cell s1 10).trans rfl
    go_simp
    with_reducible rfl
  rotate_left
  · simp only [Act.put, List.setIfInBounds_toArray, List.set_cons_zero, List.set_cons_succ, i64_w, i32_w]
    rfl
  refine pure_ (i := 2) (N := (some 12)) (v := ?_) (a' := ?_) #[true, true, true, false, false, false, false, false, false, false] rfl rfl (by kernel_rfl) (fun _ _ _ h => h) (Or.inl ⟨by rfl, ?_⟩) ?_ ?_
  rotate_left
  · intro w'
    go_simp
    with_reducible rfl
  rotate_left
  · simp only [Act.put, List.setIfInBounds_toArray, List.set_cons_zero, List.set_cons_succ, i64_w, i32_w]
    rfl
  refine pure_ (i := 3) (N := (some 13)) (v := ?_) (a' := ?_) #[true, true, true, true, false, false, false, false, false, false] rfl rfl (by kernel_rfl) (fun _ _ _ h => h) (Or.inl ⟨by rfl, ?_⟩) ?_ ?_
  rotate_left
  · intro w'
    go_simp
    with_reducible rfl
  rotate_left
  · simp only [Act.put, List.setIfInBounds_toArray, List.set_cons_zero, List.set_cons_succ, i64_w, i32_w]
    rfl
  refine take_ (i := 4) (N := (some 14)) (v := ?_) (a' := ?_) #[true, true, true, true, true, false, false, false, false, false] rfl rfl (by kernel_rfl) (fun _ _ _ h => h) (Or.inl ⟨by rfl, ?_⟩) hHeld ?_ ?_
  rotate_left
  · rintro w' ⟨s0, s1⟩
    have t0 : w'.cell? ⟨c, 0, none⟩ = some (.pointer (some ⟨g, 0, none⟩)) := (blk_cell s0 0).trans rfl
    have t10 : w'.cell? ⟨g, 10, none⟩ = some (.slice (some ⟨bG, 0, none⟩) m.given.length cG) := (blk_cell s1 10).trans rfl
    go_simp
    with_reducible rfl
  rotate_left
  · simp only [Act.put, List.setIfInBounds_toArray, List.set_cons_zero, List.set_cons_succ, i64_w, i32_w]
    rfl
  refine pure_ (i := 5) (N := (some 15)) (v := ?_) (a' := ?_) #[true, true, true, true, true, true, false, false, false, false] rfl rfl (by kernel_rfl) (fun _ _ _ h => h) (Or.inl ⟨by rfl, ?_⟩) ?_ ?_
  rotate_left
  · intro w'
    go_simp
    with_reducible rfl
  rotate_left
  · simp only [Act.put, List.setIfInBounds_toArray, List.set_cons_zero, List.set_cons_succ, i64_w, i32_w]
    rfl
  refine one_ (i := 6) (N := (some 16)) #[true, true, true, true, true, true, true, false, false, false] rfl rfl (by kernel_rfl) (by decide) (fun K hK => ?_)
  refine goes_ Try.func48 (by kernel_rfl) rfl #[.slice A' rest.length (cG - 1)] (by rfl) rfl rfl (by simp only [List.map_toArray, List.map_cons, List.map_nil]; rfl) ?_
  refine (clone_int A' (cG - 1) rest _ HC1.out HL.out).mono ?_
  rintro e w1 ⟨v1, rfl, ho, hb⟩
  refine ⟨_, rfl, ?_⟩
  obtain ⟨A1, c1, hv⟩ := Kd.R_slice ho
  subst hv
  obtain ⟨ob, om, oi, of_⟩ := put_G HI.out (Kd.R_lower ho (Nat.zero_le _)) (grown_of_below hb _) (fun k hk => .inr (Kd.R_base ho k hk.symm))
  have OC := Aside0.mk ((hb.block _ (blk_lt HC.out)).trans HC.out)
  have OP := Aside0.mk ((hb.block _ (blk_lt HP.out)).trans HP.out)
  have OE := Aside0.mk ((hb.block _ (blk_lt HE.out)).trans HE.out)
  have OPN := Aside0.mk (show some cp ≠ (Value.slice A1 rest.length c1).ownBlock from fun hk => by have h1 := Kd.R_base ho cp hk.symm; have h2 := blk_lt HP.out; omega)
  have OB := Aside0.mk ob
  have OM := Aside0.mk om
  have OI := Aside0.mk oi
  have OF := Aside0.mk of_
  have OS := Aside0.mk hb.size
  clear ho hb om oi of_
  refine hK.out _ _ ⟨OC.out, OB.out⟩ (fun hHeld => ?_)
  have q10 : w1.cell? ⟨g, 10, none⟩ = some (.slice (some ⟨bG, 0, none⟩) m.given.length cG) := (blk_cell ob 10).trans rfl
  have r10 := blk_frozen ob 10
  clear hK K
  refine norm_ (a' := ?_) ?_ ?_
  rotate_left
  · show Act.put _ (some 16) _ = _
    simp only [Act.put, List.setIfInBounds_toArray, List.set_cons_zero, List.set_cons_succ, i64_w, i32_w]
    rfl
  refine pure_ (i := 7) (N := (some 17)) (v := ?_) (a' := ?_) #[true, true, true, true, true, true, true, true, false, false] rfl rfl (by kernel_rfl) (fun _ _ _ h => h) (Or.inl ⟨by rfl, ?_⟩) ?_ ?_
  rotate_left
  · intro w'
    go_simp
    with_reducible rfl
  rotate_left
  · simp only [Act.put, List.setIfInBounds_toArray, List.set_cons_zero, List.set_cons_succ, i64_w, i32_w]
    rfl
  refine pure_ (i := 8) (N := (some 18)) (v := ?_) (a' := ?_) #[true, true, true, true, true, true, true, true, true, false] rfl rfl (by kernel_rfl) (fun _ _ _ h => h) (Or.inl ⟨by rfl, ?_⟩) ?_ ?_
  rotate_left
  · intro w'
    go_simp
    with_reducible rfl
  rotate_left
  · simp only [Act.put, List.setIfInBounds_toArray, List.set_cons_zero, List.set_cons_succ, i64_w, i32_w]
    rfl
  refine last_ (i := 9) (N := none) #[true, true, true, true, true, true, true, true, true, true] rfl rfl (by kernel_rfl) (by decide) (fun K hK => ?_)
  refine skip_ (w1 := ?_) (by rfl) rfl ?_ ?_
  rotate_left
  · go_simp
    rfl
  refine hK.out _ _ ?_
  clear hK K
  refine done_ (by kernel_rfl) ?_
  have OC' := Aside0.mk (blk_far OC.out (p := ⟨g, 10, none⟩) (blk_ne OC.out OB.out (by decide)) (.slice A1 rest.length c1))
  have OP' := Aside0.mk (blk_far OP.out (p := ⟨g, 10, none⟩) (blk_ne OP.out OB.out (by decide)) (.slice A1 rest.length c1))
  have OE' := Aside0.mk (blk_far OE.out (p := ⟨g, 10, none⟩) (blk_ne OE.out OB.out (by decide)) (.slice A1 rest.length c1))
  clear OC OP OE OB ob q10 r10 hHeld hcut
  generalize w1.setCell ⟨g, 10, none⟩ (.slice A1 rest.length c1) = W2 at OI OM OC' OP' OE' ⊢
  go_wp2
  have OI' := Aside0.mk OI.out.drew
  have OM' := Aside0.mk OM.out.drew
  have OC := Aside0.mk (show W2.drew.heap[c]? = _ from OC'.out)
  have OP := Aside0.mk (show W2.drew.heap[cp]? = _ from OP'.out)
  have OE := Aside0.mk (show W2.drew.heap[e0]? = _ from OE'.out)
  clear OI OM OC' OP' OE'
  have OI := OI'
  have OM := OM'
  clear OI' OM'
  refine start_ (n := 11) (S := fun w' => w'.heap[c]? = some (.cells #[ptr g] 32 (0, 0)) ∧ w'.heap[g]? = some (.cells (cellsM ⟨.slice AJ m.jobs.length cJ, .slice AW m.workers.length cW, .slice AS m.sent.length cS, .slice A1 rest.length c1, .slice AO m.got.length cO⟩ { m with given := rest }) 97 (0, 0))) (ds := [10]) #[false, false, false, false, false, false, false, false, false, false, false] (by kernel_rfl) rfl rfl ⟨OC.out, OI.out.blk⟩ (fun hHeld => ?_)
  generalize W2.drew = W3 at OI OM OC OP OE hHeld ⊢
  refine take_ (i := 0) (N := (some 19)) (v := ?_) (a' := ?_) #[true, false, false, false, false, false, false, false, false, false, false] rfl rfl (by kernel_rfl) (fun _ _ _ h => h) (Or.inl ⟨by rfl, ?_⟩) hHeld ?_ ?_
  rotate_left
  · rintro w' ⟨s0, s1⟩
    have t0 : w'.cell? ⟨c, 0, none⟩ = some (.pointer (some ⟨g, 0, none⟩)) := (blk_cell s0 0).trans rfl
    have t12 : w'.cell? ⟨g, 12, none⟩ = some (.slice AO m.got.length cO) := (blk_cell s1 12).trans rfl
    go_simp
    with_reducible rfl
  rotate_left
  · simp only [Act.put, List.setIfInBounds_toArray, List.set_cons_zero, List.set_cons_succ, i64_w, i32_w]
    rfl
  refine take_ (i := 1) (N := (some 20)) (v := ?_) (a' := ?_) #[true, true, false, false, false, false, false, false, false, false, false] rfl rfl (by kernel_rfl) (fun _ _ _ h => h) (Or.inl ⟨by rfl, ?_⟩) hHeld ?_ ?_
  rotate_left
  · rintro w' ⟨s0, s1⟩
    have t0 : w'.cell? ⟨c, 0, none⟩ = some (.pointer (some ⟨g, 0, none⟩)) := (blk_cell s0 0).trans rfl
    have t12 : w'.cell? ⟨g, 12, none⟩ = some (.slice AO m.got.length cO) := (blk_cell s1 12).trans rfl
    go_simp
    with_reducible rfl
  rotate_left
  · simp only [Act.put, List.setIfInBounds_toArray, List.set_cons_zero, List.set_cons_succ, i64_w, i32_w]
    rfl
  refine pure_ (i := 2) (N := (some 21)) (v := ?_) (a' := ?_) #[true, true, true, false, false, false, false, false, false, false, false] rfl rfl (by kernel_rfl) (fun _ _ _ h => h) (Or.inl ⟨by rfl, ?_⟩) ?_ ?_
  rotate_left
  · intro w'
    go_simp
    with_reducible rfl
  rotate_left
  · simp only [Act.put, List.setIfInBounds_toArray, List.set_cons_zero, List.set_cons_succ, i64_w, i32_w]
    rfl
  refine pure_ (i := 3) (N := (some 22)) (v := ?_) (a' := ?_) #[true, true, true, true, false, false, false, false, false, false, false] rfl rfl (by kernel_rfl) (fun _ _ _ h => h) (Or.inl ⟨by rfl, ?_⟩) ?_ ?_
  rotate_left
  · intro w'
    go_simp
    with_reducible rfl
  rotate_left
  · simp only [Act.put, List.setIfInBounds_toArray, List.set_cons_zero, List.set_cons_succ, i64_w, i32_w]
    rfl
  refine take_ (i := 4) (N := (some 23)) (v := ?_) (a' := ?_) #[true, true, true, true, true, false, false, false, false, false, false] rfl rfl (by kernel_rfl) (fun _ _ _ h => h) (Or.inl ⟨by rfl, ?_⟩) hHeld ?_ ?_
  rotate_left
  · rintro w' ⟨s0, s1⟩
    have t0 : w'.cell? ⟨c, 0, none⟩ = some (.pointer (some ⟨g, 0, none⟩)) := (blk_cell s0 0).trans rfl
    have t12 : w'.cell? ⟨g, 12, none⟩ = some (.slice AO m.got.length cO) := (blk_cell s1 12).trans rfl
    go_simp
    with_reducible rfl
  rotate_left
  · simp only [Act.put, List.setIfInBounds_toArray, List.set_cons_zero, List.set_cons_succ, i64_w, i32_w]
    rfl
  refine pure_ (i := 5) (N := (some 24)) (v := ?_) (a' := ?_) #[true, true, true, true, true, true, false, false, false, false, false] rfl rfl (by kernel_rfl) (fun _ _ _ h => h) (Or.inl ⟨by rfl, ?_⟩) ?_ ?_
  rotate_left
  · intro w'
    go_simp
    with_reducible rfl
  rotate_left
  · simp only [Act.put, List.setIfInBounds_toArray, List.set_cons_zero, List.set_cons_succ, i64_w, i32_w]
    rfl
  refine one_ (i := 6) (N := (some 25)) #[true, true, true, true, true, true, true, false, false, false, false] rfl rfl (by kernel_rfl) (by decide) (fun K hK => ?_)
  refine value_ (w1 := ?_) (v := ?_) (by rfl) rfl ?_ ?_
  rotate_left 2
  · go_simp
    constructor
    · rfl
    · rfl
  refine hK.out _ _ ⟨blk_alloc OC.out _, blk_alloc OI.out.blk _⟩ (fun hHeld => ?_)
  clear hK K
  refine norm_ (a' := ?_) ?_ ?_
  rotate_left
  · show Act.put _ (some 25) _ = _
    simp only [Act.put, List.setIfInBounds_toArray, List.set_cons_zero, List.set_cons_succ, i64_w, i32_w]
    rfl
  refine one_ (i := 7) (N := (some 26)) #[true, true, true, true, true, true, true, true, false, false, false] rfl rfl (by kernel_rfl) (by decide) (fun K hK => ?_)
  refine Kd.R_append_step (Kd.int .i64) (w0 := W3) 0 (by rfl) (.tmp 23) (.tmp 25) 24 3 (.int .i64 0) 8 rfl Try.underlying24 info3 rfl (by decide) (by omega) (.slice AO m.got.length cO) m.got q [.int .i64 q] (fun _ => True) (fun _ => False) rfl rfl ?aP (fun _ hk => hk.elim) ?aF ?aO ?aB ?aS ?aL ?_
  (case aP => exact rfl)
  (case aF => exact (fun _ _ => trivial))
  (case aO => exact Kd.R_mono OI.out.got (fun _ _ => trivial))
  (case aB => exact Below.refl 0 W3)
  (case aS => exact Nat.zero_le _)
  (case aL => have := HG.out; omega)
  intro v2 w2 ho hb hgr hat
  obtain ⟨A2, c2, hv⟩ := Kd.R_slice ho
  rw [List.length_append, List.length_singleton] at hv
  subst hv
  obtain ⟨ob, om, oi, of_⟩ := app_O OI.out ho hgr hat
  have PC := Aside0.mk (blk_grown OC.out hgr (fun e => ne_typed OI.out.got OC.out (by decide) c e rfl))
  have PP := Aside0.mk (blk_grown OP.out hgr HON.out)
  have PE := Aside0.mk (blk_grown OE.out hgr (fun e => ne_typed OI.out.got OE.out (by decide) e0 e rfl))
  have PB := Aside0.mk ob
  have PM := Aside0.mk om
  have PI := Aside0.mk oi
  have PF := Aside0.mk of_
  clear ho hb hgr hat om oi of_
  refine hK.out _ _ ⟨PC.out, PB.out⟩ (fun hHeld => ?_)
  have q12 : w2.cell? ⟨g, 12, none⟩ = some (.slice AO m.got.length cO) := (blk_cell ob 12).trans rfl
  have r12 := blk_frozen ob 12
  clear hK K
  refine norm_ (a' := ?_) ?_ ?_
  rotate_left
  · show Act.put _ (some 26) _ = _
    simp only [Act.put, List.setIfInBounds_toArray, List.set_cons_zero, List.set_cons_succ, i64_w, i32_w]
    rfl
  refine pure_ (i := 8) (N := (some 27)) (v := ?_) (a' := ?_) #[true, true, true, true, true, true, true, true, true, false, false] rfl rfl (by kernel_rfl) (fun _ _ _ h => h) (Or.inl ⟨by rfl, ?_⟩) ?_ ?_
  rotate_left
  · intro w'
    go_simp
    with_reducible rfl
  rotate_left
  · simp only [Act.put, List.setIfInBounds_toArray, List.set_cons_zero, List.set_cons_succ, i64_w, i32_w]
    rfl
  refine pure_ (i := 9) (N := (some 28)) (v := ?_) (a' := ?_) #[true, true, true, true, true, true, true, true, true, true, false] rfl rfl (by kernel_rfl) (fun _ _ _ h => h) (Or.inl ⟨by rfl, ?_⟩) ?_ ?_
  rotate_left
  · intro w'
    go_simp
    with_reducible rfl
  rotate_left
  · simp only [Act.put, List.setIfInBounds_toArray, List.set_cons_zero, List.set_cons_succ, i64_w, i32_w]
    rfl
  refine last_ (i := 10) (N := none) #[true, true, true, true, true, true, true, true, true, true, true] rfl rfl (by kernel_rfl) (by decide) (fun K hK => ?_)
  refine skip_ (w1 := ?_) (by rfl) rfl ?_ ?_
  rotate_left
  · go_simp
    rfl
  refine hK.out _ _ ?_
  clear hK K
  refine done_ (by kernel_rfl) ?_
  have QC := Aside0.mk (blk_far PC.out (p := ⟨g, 12, none⟩) (blk_ne PC.out PB.out (by decide)) (.slice A2 (m.got.length + 1) c2))
  have QP := Aside0.mk (blk_far PP.out (p := ⟨g, 12, none⟩) (blk_ne PP.out PB.out (by decide)) (.slice A2 (m.got.length + 1) c2))
  have QE := Aside0.mk (blk_far PE.out (p := ⟨g, 12, none⟩) (blk_ne PE.out PB.out (by decide)) (.slice A2 (m.got.length + 1) c2))
  clear PC PP PE PB ob q12 r12 hHeld
  generalize w2.setCell ⟨g, 12, none⟩ (.slice A2 (m.got.length + 1) c2) = W4 at PI PM QC QP QE ⊢
  have t1 : W4.cell? ⟨cp, 0, none⟩ = some (.int .i64 p) := (blk_cell QP.out 0).trans rfl
  have u0 : W4.cell? ⟨e0, 0, none⟩ = some (.int .i64 0) := (blk_cell QE.out 0).trans rfl
  have u1 : W4.cell? ⟨e0, 1, none⟩ = some (.int .i64 0) := (blk_cell QE.out 1).trans rfl
  have u2 : W4.cell? ⟨e0, 2, none⟩ = some (.int .i64 0) := (blk_cell QE.out 2).trans rfl
  have u3 : W4.cell? ⟨e0, 3, none⟩ = some (.int .i64 0) := (blk_cell QE.out 3).trans rfl
  have v0 := blk_frozen QE.out 0
  have v1 := blk_frozen QE.out 1
  have v2 := blk_frozen QE.out 2
  have v3 := blk_frozen QE.out 3
  go_wp2
  have M5 := Moved.comp (Moved.after HB.out OM.out) PM.out rfl (fun k hk => (OF.out k hk).imp id (fun h => Nat.le_trans HB.out.size h))
  obtain ⟨M6, H6⟩ := M5.ev QE.out rfl (Nat.le_of_eq HZ.out) (.int .i64 9) (.int .i64 p) (.int .i64 q) (.int .i64 0)
  exact bodyPost_ret (results_cell_row rfl _ _ e0 42 _ (0, 0) _ rfl H6 Try.underlying42 rfl (by kernel_rfl)) rfl ⟨rfl, M6⟩
end Go.Proofs.Ythcchpbidbbiaaa.Sc
namespace Go.Proofs.Ythcchpbidbbiaaa.Sc
open Go.RowKit Go.Proofs.YthcchpbidbbiaaaW.PrintWords Go.Proofs.YthcchpbidbbiaaaW.PrintLast Go.Proofs.YthcchpbidbbiaaaW.PrintMore Go.Proofs.Ythcchpbidbbiaaa.PSchedSide
set_option linter.unusedVariables false
set_option linter.unusedSimpArgs false
/-- Method values of one machine. -/
def encF (g : Nat) (k : Nat) : Value := .func (.func k) #[ptr g] #[]
def kF (g : Nat) : Kd Nat := Kd.scalar (encF g) (fun _ => rfl)
theorem info105 : (Try.prog.info? 105).map (fun i => (i.zero, i.size, i.bytes)) = some (some .nilFunc, 1, 8) := by kernel_rfl
theorem lit_kF (g : Nat) (W : World) (k : Nat) : (kF g).R 105 (W.alloc (.cells #[.func (.func k) #[ptr g] #[]] 105)) W.heap.size (fun _ => True) (.slice (some ⟨W.heap.size, 0, none⟩) 1 1) [k] := by
  have h := World.ownsRow_lit (base := W.heap.size) (e := 105) (size := 1) W #[encF g k] 1 (Nat.le_refl _) (by simp [maxLen]) (by simp)
  exact Kd.R_of_own (enc := encF g) (h1 := fun _ => rfl) (xs := [k]) (by simpa [encs, encF] using h) (fun _ _ => trivial)
def procs (n : Nat) : List Nat := 69 :: (List.replicate n 70 ++ [71])
theorem procs_length (n : Nat) : (procs n).length = n + 2 := by simp [procs]
set_option maxHeartbeats 4000000 in
set_option maxRecDepth 1000000 in
theorem processes_calls (w : World) (g : Nat) (s : Sh) (m : Mach) (hI : IsM w g s m) (hl : m.workers.length ≤ 8) :
    Calls Try.prog 53 #[.pointer (some ⟨g, 0, none⟩)] w fun e w' => ∃ v, e = .returned v ∧ (kF g).R 105 w' w.heap.size (fun _ => True) v (procs m.workers.length) ∧ Below w.heap.size w w' := by
  obtain ⟨AJ, cJ, AW, cW, AS, cS, AG, cG, AO, cO, rfl⟩ := hI.slices
  have HI := Aside0.mk hI
  have HL := Aside0.mk hl
  have hI1 := hI.alloc (.cells #[.func (.func 69) #[ptr g] #[]] 105)
  have h8 : (w.alloc (.cells #[.func (.func 69) #[ptr g] #[]] 105)).cell? ⟨g, 8, none⟩ = some (.slice AW m.workers.length cW) := (blk_cell hI1.blk 8).trans rfl
  have HX := Aside0.mk (lit_kF g w 69)
  have HB0 := Aside0.mk (below_alloc (Below.refl w.heap.size w) (.cells #[.func (.func 69) #[ptr g] #[]] 105))
  clear hI hI1 hl
  obtain ⟨n, hn⟩ : ∃ n, m.workers.length = n := ⟨_, rfl⟩
  rw [hn] at h8 HL ⊢
  have HN := Aside0.mk hn
  clear hn
  have hmf := mf
  go_enter Try.func53, Try.ntmps53
  go_wp2
  go_loopw [3, 12] (fun v i wr => ∃ k : Nat, i = .int .i64 k ∧ k ≤ n ∧ (kF g).R 105 wr w.heap.size (fun _ => True) v (69 :: List.replicate k 70) ∧ Below w.heap.size w wr) (fun _ i _ => n - (intOf i).toNat)
  case atStart => exact ⟨0, rfl, Nat.zero_le _, HX.out, HB0.out⟩
  case round =>
    rename_i v0 _ wr
    obtain ⟨k, rfl, hk, ho, hb⟩ := hrel
    have HO := Aside0.mk ho
    have HB := Aside0.mk hb
    clear ho hb
    have hn8 := HL.out
    by_cases hlt : k < n
    · have p0 : decide ((k : Int) < (n : Int)) = true := decide_eq_true (by omega)
      go_wp2_with (first | ((with_reducible refine gate_builtin (b := .append) (xs := #[.tmp 14, .tmp 17]) rfl ?_); at_builtin; refine Kd.R_append (kF g) (w0 := w) w.heap.size rfl (.tmp 14) (.tmp 17) 106 105 .nilFunc 8 rfl Try.underlying106 info105 rfl Nat.zero_lt_one (by omega) _ _ 70 [.func (.func 70) #[ptr g] #[]] (fun _ => True) (fun _ => False) rfl rfl ?aP (fun _ hk => hk.elim) ?aF HO.out HB.out ?aS ?aL ?_; (case aP => exact rfl); (case aF => exact (fun _ _ => trivial)); (case aS => exact HB.out.size); (case aL => have := HL.out; simp only [List.length_cons, List.length_replicate]; omega); intro v1 w1 ho hb hgr hat; have HO1 := Aside0.mk ho; have HB1 := Aside0.mk hb; clear ho hb hgr hat))
      go_roundw
      case rel => exact ⟨k + 1, by go_num, by omega, by rw [List.replicate_succ']; exact HO1.out, HB1.out⟩
      case measure => simp [intOf]; omega
    · have p0 : decide ((k : Int) < (n : Int)) = false := decide_eq_false (by omega)
      have hkn : k = n := by omega
      subst hkn
      go_wp2_with (first | ((with_reducible refine gate_builtin (b := .append) (xs := #[.tmp 20, .tmp 23]) rfl ?_); at_builtin; refine Kd.R_append (kF g) (w0 := w) w.heap.size rfl (.tmp 20) (.tmp 23) 106 105 .nilFunc 8 rfl Try.underlying106 info105 rfl Nat.zero_lt_one (by omega) _ _ 71 [.func (.func 71) #[ptr g] #[]] (fun _ => True) (fun _ => False) rfl rfl ?aP (fun _ hk => hk.elim) ?aF HO.out HB.out ?aS ?aL ?_; (case aP => exact rfl); (case aF => exact (fun _ _ => trivial)); (case aS => exact HB.out.size); (case aL => have := HL.out; simp only [List.length_cons, List.length_replicate]; omega); intro v1 w1 ho hb hgr hat; have HO1 := Aside0.mk ho; have HB1 := Aside0.mk hb; clear ho hb hgr hat))
      go_ret
      exact ⟨_, rfl, HO1.out, HB1.out⟩
end Go.Proofs.Ythcchpbidbbiaaa.Sc
