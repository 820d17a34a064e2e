/- Moves: which are ready, how one is taken or picked; what a machine tells. -/
import Derived.Test.YthcchpbidbbiaaaScc
import Derived.Laws.EntriesVeiled
namespace Go.Proofs.Ythcchpbidbbiaaa.Sc
open Go.RowKit Go.Proofs.YthcchpbidbbiaaaW.PrintWords Go.Proofs.YthcchpbidbbiaaaW.PrintLast Go.Proofs.YthcchpbidbbiaaaW.PrintMore Go.Proofs.Ythcchpbidbbiaaa.PSchedSide
set_option linter.unusedVariables false
set_option linter.unusedSimpArgs false
/-- An event. -/
structure Evt where
  k : Int
  p : Int
  j : Int
  s : Int
def Evt.v (e : Evt) : Value := ev e.k e.p e.j e.s
def rdy (m : Mach) (p : Int) (stop : Bool) : Bool := if p = 0 then readyD m stop else if p = m.workers.length + 1 then readyC m stop else readyW m p stop
def setW (m : Mach) (p : Int) (x : S59) : List S99 := m.workers.set (p - 1).toNat ⟨x⟩
/-- What a move that is ready does. -/
def act (m : Mach) (p : Int) (stop : Bool) : Evt × Mach :=
  if p = 0 then
    if und m = 0 then (⟨3, 0, -1, 0⟩, { m with disp := false })
    else if stop then (⟨2, 0, -1, 0⟩, { m with dropped := true })
    else (⟨1, 0, m.next, 0⟩, { m with sent := m.sent ++ [m.next], next := m.next + 1 })
  else if p = m.workers.length + 1 then
    if stop then (⟨11, p, -1, 0⟩, { m with coll := false, outcome := 2 })
    else if m.got.length = m.jobs.length then (⟨10, p, -1, 0⟩, { m with coll := false, outcome := 1 })
    else (⟨9, p, m.given.headD 0, 0⟩, { m with given := m.given.tail, got := m.got ++ [m.given.headD 0] })
  else if stop then (⟨8, p, jobOf (wk m p), 0⟩, { m with workers := setW m p ⟨0, 0, 0⟩ })
  else if (wk m p).f0 = 2 then
    if 0 < (wk m p).f2 then (⟨5, p, (wk m p).f1, rd m.jobs (wk m p).f1 - ((wk m p).f2 - 1) - 1⟩, { m with workers := setW m p ⟨2, (wk m p).f1, (wk m p).f2 - 1⟩ })
    else (⟨6, p, (wk m p).f1, 0⟩, { m with given := m.given ++ [(wk m p).f1], judged := m.judged + 1, workers := setW m p ⟨1, 0, 0⟩ })
  else if m.sent.length = 0 then (⟨7, p, -1, 0⟩, { m with workers := setW m p ⟨0, 0, 0⟩ })
  else (⟨4, p, m.sent.headD 0, 0⟩, tookM m p (m.sent.headD 0) m.sent.tail)
/-- The closure f, got in the world W, does the move. -/
def DoIs (f : Value) (W : World) (g : Nat) (s : Sh) (m : Mach) (p : Int) (stop : Bool) : Prop :=
  ∃ fn caps, f = .func (.func fn) #[] caps ∧ (∀ w, (callFunc fn caps).run Try.prog w = .ok (.enter fn caps) w) ∧
    ∀ W2 x, IsM W2 g s { m with picks := x } → (∀ k, k ≠ g → W2.heap[k]? = W.heap[k]?) →
      Calls Try.prog fn caps W2 fun e w3 => e = .returned (act m p stop).1.v ∧ Moved W2 g s { (act m p stop).2 with picks := x } w3
theorem ok_picks {m : Mach} (h : Ok m) (x : Int) : Ok { m with picks := x } := ⟨h.pw, h.pj, h.pr, h.nj, h.js, h.nx, h.nw, h.ws, h.ns, h.ss, h.ng, h.gs, h.jd, h.ct, h.pk⟩
theorem blk_drawn {w w' : World} (h : Drawn0 w w') {k : Nat} {o : Obj} (hk : w.heap[k]? = some o) : w'.heap[k]? = some o := by
  obtain ⟨n, rfl⟩ := h
  exact blk_drewN hk n
theorem below_drawn {w w1 w' : World} (hb : Below w.heap.size w w1) (h : Drawn0 w1 w') : Below w.heap.size w w' := by
  obtain ⟨n, rfl⟩ := h
  exact pw_below_drewN hb n
theorem disp_does (w : World) (g : Nat) (s : Sh) (m : Mach) (p : Int) (stop : Bool) (hI : IsM w g s m) (hO : Ok m) (hp : p = 0) :
    Calls Try.prog 69 #[ptr g, .int .i64 p, .bool stop] w fun e w' => ∃ f, e = .returned (.tuple #[f, .bool (rdy m p stop)]) ∧ Below w.heap.size w w' ∧ (rdy m p stop = true → DoIs f w' g s m p stop) := by
  have hr : rdy m p stop = readyD m stop := by simp [rdy, hp]
  rw [hr]
  have hg := hI.lt
  refine (dispatches_calls w g s m p stop hI hO).mono ?_
  rintro e w' ⟨rfl, hd⟩
  refine ⟨_, rfl, below_drawn (below_alloc (Below.refl _ _) _) hd, fun ht => ?_⟩
  have hc := blk_drawn hd (heap_alloc_new w (.cells #[ptr g] 32))
  have hne : w.heap.size ≠ g := by omega
  unfold readyD at ht
  simp only [Bool.and_eq_true] at ht
  obtain ⟨hdisp, ht⟩ := ht
  by_cases hu : und m = 0
  · rw [if_pos hu] at ht
    have hst : stop = false := by simpa using ht
    subst hst
    refine ⟨77, #[ptr w.heap.size], by simp [funD, hdisp, hu], fun w => enters_ Try.func77 (by kernel_rfl) rfl _ w, fun W2 x h2 hk => ?_⟩
    have := do77 W2 g s { m with picks := x } w.heap.size h2 ((hk _ hne).trans hc)
    simpa [act, hp, hu, Evt.v] using this
  · rw [if_neg hu] at ht
    cases stop with
    | true =>
      refine ⟨78, #[ptr w.heap.size], by simp [funD, hdisp, hu], fun w => enters_ Try.func78 (by kernel_rfl) rfl _ w, fun W2 x h2 hk => ?_⟩
      have := do78 W2 g s { m with picks := x } w.heap.size h2 ((hk _ hne).trans hc)
      simpa [act, hp, hu, Evt.v] using this
    | false =>
      refine ⟨79, #[ptr w.heap.size], by simp [funD, hdisp, hu], fun w => enters_ Try.func79 (by kernel_rfl) rfl _ w, fun W2 x h2 hk => ?_⟩
      have := do79 W2 g s { m with picks := x } w.heap.size h2 (ok_picks hO x) ((hk _ hne).trans hc)
      simpa [act, hp, hu, Evt.v] using this
theorem coll_does (w : World) (g : Nat) (s : Sh) (m : Mach) (p : Int) (stop : Bool) (hI : IsM w g s m) (hO : Ok m) (hp : p = m.workers.length + 1) :
    Calls Try.prog 71 #[ptr g, .int .i64 p, .bool stop] w fun e w' => ∃ f, e = .returned (.tuple #[f, .bool (rdy m p stop)]) ∧ Below w.heap.size w w' ∧ (rdy m p stop = true → DoIs f w' g s m p stop) := by
  have hp0 : p ≠ 0 := by omega
  have hr : rdy m p stop = readyC m stop := by simp only [rdy]; rw [if_neg hp0, if_pos hp]
  rw [hr]
  have hg := hI.lt
  refine (collects_calls w g s m p stop hI hO).mono ?_
  rintro e w' ⟨rfl, hd⟩
  have hbC : Below w.heap.size w (worldC w g p) := below_alloc (below_alloc (Below.refl _ _) _) _
  have c0 : (worldC w g p).heap[w.heap.size]? = some (.cells #[ptr g] 32 (0, 0)) := blk_alloc (heap_alloc_new w _) _
  have c1 : (worldC w g p).heap[w.heap.size + 1]? = some (.cells #[.int .i64 p] 3 (0, 0)) := new_at _ (by simp)
  have hbE : ∀ o k, Below w.heap.size w (endW (worldC w g p) o k) := fun o k => below_alloc (below_alloc hbC _) _
  have e0 : ∀ o k, (endW (worldC w g p) o k).heap[w.heap.size]? = some (.cells #[ptr g] 32 (0, 0)) := fun o k => blk_alloc (blk_alloc c0 _) _
  have e1 : ∀ o k, (endW (worldC w g p) o k).heap[w.heap.size + 1]? = some (.cells #[.int .i64 p] 3 (0, 0)) := fun o k => blk_alloc (blk_alloc c1 _) _
  have e2 : ∀ o k, (endW (worldC w g p) o k).heap[w.heap.size + 2]? = some (.cells #[.int .i64 o] 3 (0, 0)) := fun o k => blk_alloc (new_at _ (by simp [worldC])) _
  have e3 : ∀ o k, (endW (worldC w g p) o k).heap[w.heap.size + 3]? = some (.cells #[.int .i64 k] 3 (0, 0)) := fun o k => new_at _ (by simp [worldC])
  have n0 : w.heap.size ≠ g := by omega
  have n1 : w.heap.size + 1 ≠ g := by omega
  have n2 : w.heap.size + 2 ≠ g := by omega
  have n3 : w.heap.size + 3 ≠ g := by omega
  have hW : Below w.heap.size w w' := by
    refine below_drawn ?_ hd
    unfold worldC'
    split
    · exact hbC
    · split
      · exact hbE 2 11
      · split
        · exact hbE 1 10
        · exact hbC
  refine ⟨_, rfl, hW, fun ht => ?_⟩
  unfold readyC at ht
  simp only [Bool.and_eq_true] at ht
  obtain ⟨hcoll, ht⟩ := ht
  cases stop with
  | true =>
    have hw : worldC' m true w g p = endW (worldC w g p) 2 11 := by simp [worldC', hcoll]
    rw [hw] at hd
    refine ⟨87, #[ptr (w.heap.size + 2), ptr w.heap.size, ptr (w.heap.size + 3), ptr (w.heap.size + 1)], by simp [funC, hcoll], fun w => enters_ Try.func87 (by kernel_rfl) rfl _ w, fun W2 x h2 hk => ?_⟩
    have := do87 W2 g s { m with picks := x } 2 11 p _ _ _ _ h2 ((hk _ n2).trans (blk_drawn hd (e2 2 11))) ((hk _ n0).trans (blk_drawn hd (e0 2 11))) ((hk _ n3).trans (blk_drawn hd (e3 2 11))) ((hk _ n1).trans (blk_drawn hd (e1 2 11)))
    have ha : act m p true = (⟨11, p, -1, 0⟩, { m with coll := false, outcome := 2 }) := by simp only [act]; rw [if_neg hp0, if_pos hp, if_pos trivial]
    rw [ha]
    exact this
  | false =>
    by_cases hl : m.got.length = m.jobs.length
    · have hw : worldC' m false w g p = endW (worldC w g p) 1 10 := by simp [worldC', hcoll, hl]
      rw [hw] at hd
      refine ⟨87, #[ptr (w.heap.size + 2), ptr w.heap.size, ptr (w.heap.size + 3), ptr (w.heap.size + 1)], by simp [funC, hcoll, hl], fun w => enters_ Try.func87 (by kernel_rfl) rfl _ w, fun W2 x h2 hk => ?_⟩
      have := do87 W2 g s { m with picks := x } 1 10 p _ _ _ _ h2 ((hk _ n2).trans (blk_drawn hd (e2 1 10))) ((hk _ n0).trans (blk_drawn hd (e0 1 10))) ((hk _ n3).trans (blk_drawn hd (e3 1 10))) ((hk _ n1).trans (blk_drawn hd (e1 1 10)))
      have ha : act m p false = (⟨10, p, -1, 0⟩, { m with coll := false, outcome := 1 }) := by simp only [act]; rw [if_neg hp0, if_pos hp, if_neg (by simp), if_pos hl]
      rw [ha]
      exact this
    · have hw : worldC' m false w g p = worldC w g p := by simp [worldC', hcoll, hl]
      rw [hw] at hd
      have hgv : 0 < m.given.length := by simpa [hl] using ht
      obtain ⟨q, rest, hq⟩ : ∃ q rest, m.given = q :: rest := by
        cases h : m.given with
        | nil => rw [h] at hgv; simp at hgv
        | cons q rest => exact ⟨q, rest, rfl⟩
      refine ⟨88, #[ptr w.heap.size, ptr (w.heap.size + 1)], by simp [funC, hcoll, hl], fun w => enters_ Try.func88 (by kernel_rfl) rfl _ w, fun W2 x h2 hk => ?_⟩
      have hpo : some (w.heap.size + 1) ≠ s.O.ownBlock := fun e => by have := hI.got.lt _ e; omega
      have := do88 W2 g s { m with picks := x } p q rest _ _ h2 (ok_picks hO x) hq ((hk _ n0).trans (blk_drawn hd c0)) ((hk _ n1).trans (blk_drawn hd c1)) hpo
      have ha : act m p false = (⟨9, p, m.given.headD 0, 0⟩, { m with given := m.given.tail, got := m.got ++ [m.given.headD 0] }) := by simp only [act]; rw [if_neg hp0, if_pos hp, if_neg (by simp), if_neg hl]
      rw [ha, hq]
      exact this
theorem wk_range {m : Mach} {p : Int} (hO : Ok m) (h1 : 1 ≤ p) (h2 : p ≤ m.workers.length) : ((wk m p).f0 = 2 ∧ 0 ≤ (wk m p).f1 ∧ (wk m p).f1 < m.jobs.length ∧ 0 ≤ (wk m p).f2 ∧ (wk m p).f2 ≤ 1000) ∨ (((wk m p).f0 = 0 ∨ (wk m p).f0 = 1) ∧ (wk m p).f1 = 0 ∧ (wk m p).f2 = 0) := by
  have hlt : (p - 1).toNat < m.workers.length := by omega
  have h := hO.ws (rd_T99 m.workers (p - 1)) (by unfold rd_T99; rw [List.getD_eq_getElem?_getD, List.getElem?_eq_getElem hlt]; exact List.getElem_mem hlt)
  exact h
theorem works_calls (w : World) (g : Nat) (s : Sh) (m : Mach) (p : Int) (bW cW : Nat) (stop : Bool) (hI : IsM w g s m) (hO : Ok m) (hp : 1 ≤ p) (hp' : p ≤ m.workers.length) (hs : s.W = .slice (some ⟨bW, 0, none⟩) m.workers.length cW) :
    Calls Try.prog 70 #[ptr g, .int .i64 p, .bool stop] w fun e w' => e = .returned (.tuple #[funW m p stop w.heap.size, .bool (readyW m p stop)]) ∧ Drawn0 (worldW' m stop w g p ⟨bW, (p - 1).toNat * 3, none⟩) w' := by
  have hr := wk_range hO hp hp'
  obtain ⟨⟨k0, k1, k2⟩, hx⟩ : ∃ x, wk m p = x := ⟨_, rfl⟩
  rw [hx] at hr
  simp only [] at hr
  rcases hr with ⟨rfl, h1, h2, h3, h4⟩ | ⟨rfl | rfl, h1, h2⟩
  · cases stop with
    | true => exact works_quit2 w g s m p bW cW k1 k2 hI hO hp hp' hs hx
    | false =>
      by_cases hz : 0 < k2
      · exact works_step w g s m p bW cW k1 k2 hI hO hp hp' hs hx h1 hz
      · exact works_gave w g s m p bW cW k1 k2 hI hO hp hp' hs hx h1 (by omega)
  · exact works_ended w g s m p bW cW k1 k2 hI hO hp hp' hs hx stop
  · cases stop with
    | true => exact works_quit1 w g s m p bW cW k1 k2 hI hO hp hp' hs hx
    | false =>
      by_cases hz : m.sent.length = 0
      · exact works_left w g s m p bW cW k1 k2 hI hO hp hp' hs hx hz
      · exact works_take w g s m p bW cW k1 k2 hI hO hp hp' hs hx (by omega)
theorem work_does (w : World) (g : Nat) (s : Sh) (m : Mach) (p : Int) (stop : Bool) (hI : IsM w g s m) (hO : Ok m) (hp : 1 ≤ p) (hp' : p ≤ m.workers.length) :
    Calls Try.prog 70 #[ptr g, .int .i64 p, .bool stop] w fun e w' => ∃ f, e = .returned (.tuple #[f, .bool (rdy m p stop)]) ∧ Below w.heap.size w w' ∧ (rdy m p stop = true → DoIs f w' g s m p stop) := by
  have hp0 : p ≠ 0 := by omega
  have hpn : p ≠ m.workers.length + 1 := by omega
  have hr : rdy m p stop = readyW m p stop := by simp only [rdy]; rw [if_neg hp0, if_neg hpn]
  rw [hr]
  have hg := hI.lt
  obtain ⟨bW, cW, hs⟩ := own_form hI.works (by omega)
  have hbW : bW < w.heap.size := hI.works.lt bW (by rw [hs]; rfl)
  refine (works_calls w g s m p bW cW stop hI hO hp hp' hs).mono ?_
  rintro e w' ⟨rfl, hd⟩
  obtain ⟨a, ha⟩ : ∃ a : Addr, (⟨bW, (p - 1).toNat * 3, none⟩ : Addr) = a := ⟨_, rfl⟩
  obtain ⟨jb, hjb⟩ : ∃ jb, jobOf (wk m p) = jb := ⟨_, rfl⟩
  have hbC : Below w.heap.size w (worldW w g p a jb) := below_alloc (below_alloc (below_alloc (below_alloc (Below.refl _ _) _) _) _) _
  have hbE : ∀ k : Int, Below w.heap.size w ((worldW w g p a jb).alloc (.cells #[.int .i64 k] 3)) := fun k => below_alloc hbC _
  have c0 : (worldW w g p a jb).heap[w.heap.size]? = some (.cells #[ptr g] 32 (0, 0)) := blk_alloc (blk_alloc (blk_alloc (heap_alloc_new w _) _) _) _
  have c1 : (worldW w g p a jb).heap[w.heap.size + 1]? = some (.cells #[.int .i64 p] 3 (0, 0)) := blk_alloc (blk_alloc (new_at _ (by simp)) _) _
  have c2 : (worldW w g p a jb).heap[w.heap.size + 2]? = some (.cells #[.pointer (some a)] 119 (0, 0)) := blk_alloc (new_at _ (by simp)) _
  have c3 : (worldW w g p a jb).heap[w.heap.size + 3]? = some (.cells #[.int .i64 jb] 3 (0, 0)) := new_at _ (by simp)
  have e4 : ∀ k : Int, ((worldW w g p a jb).alloc (.cells #[.int .i64 k] 3)).heap[w.heap.size + 4]? = some (.cells #[.int .i64 k] 3 (0, 0)) := fun k => new_at _ (by simp [worldW])
  have n0 : w.heap.size ≠ g := by omega
  have n1 : w.heap.size + 1 ≠ g := by omega
  have n2 : w.heap.size + 2 ≠ g := by omega
  have n3 : w.heap.size + 3 ≠ g := by omega
  have n4 : w.heap.size + 4 ≠ g := by omega
  have g1 : some (w.heap.size + 1) ≠ s.G.ownBlock := fun e => by have := hI.given.lt _ e; omega
  have g3 : some (w.heap.size + 3) ≠ s.G.ownBlock := fun e => by have := hI.given.lt _ e; omega
  rw [ha] at hd
  have hW : Below w.heap.size w w' := by
    refine below_drawn ?_ hd
    unfold worldW'
    rw [hjb]
    split
    · exact hbE _
    · exact hbC
  refine ⟨_, rfl, hW, fun ht => ?_⟩
  have hwr := wk_range hO hp hp'
  obtain ⟨⟨k0, k1, k2⟩, hx⟩ : ∃ x, wk m p = x := ⟨_, rfl⟩
  have hxr : (rd_T99 m.workers (p - 1)).f0 = ⟨k0, k1, k2⟩ := hx
  rw [hx] at hwr
  simp only [] at hwr
  unfold worldW' at hd
  rw [hjb, hx] at hd
  simp only [] at hd
  have hj0 : 0 ≤ p - 1 := by omega
  have hj1 : p - 1 < m.workers.length := by omega
  rcases hwr with ⟨rfl, h1, h2, h3, h4⟩ | ⟨rfl | rfl, h1, h2⟩
  · have hjb2 : jb = k1 := by rw [← hjb, hx]; simp [jobOf]
    cases stop with
    | true =>
      rw [if_pos ⟨by decide, .inl rfl⟩] at hd
      refine ⟨81, #[ptr (w.heap.size + 2), ptr (w.heap.size + 4), ptr (w.heap.size + 1), ptr (w.heap.size + 3)], by simp [funW, hx], fun w => enters_ Try.func81 (by kernel_rfl) rfl _ w, fun W2 x h5 hk => ?_⟩
      have := do81 W2 g s { m with picks := x } (p - 1) 8 p jb bW cW _ _ _ _ h5 hs hj0 hj1 ((hk _ n2).trans (by rw [ha]; exact blk_drawn hd (blk_alloc c2 _))) ((hk _ n4).trans (blk_drawn hd (e4 8))) ((hk _ n1).trans (blk_drawn hd (blk_alloc c1 _))) ((hk _ n3).trans (blk_drawn hd (blk_alloc c3 _))) (by omega) (by omega) (by omega)
      have hact : act m p true = (⟨8, p, jb, 0⟩, { m with workers := setW m p ⟨0, 0, 0⟩ }) := by simp only [act]; rw [if_neg hp0, if_neg hpn, if_pos trivial, hjb]
      rw [hact]
      exact this
    | false =>
      rw [if_neg (by simp)] at hd
      by_cases hz : 0 < k2
      · refine ⟨84, #[ptr (w.heap.size + 2), ptr (w.heap.size + 1), ptr (w.heap.size + 3), ptr w.heap.size], by simp [funW, hx, hz], fun w => enters_ Try.func84 (by kernel_rfl) rfl _ w, fun W2 x h5 hk => ?_⟩
        have := do84 W2 g s { m with picks := x } (p - 1) p k1 k2 bW cW _ _ _ _ h5 (ok_picks hO x) hs hj0 hj1 hxr h1 h2 hz h4 ((hk _ n2).trans (by rw [ha]; exact blk_drawn hd c2)) ((hk _ n1).trans (blk_drawn hd c1)) ((hk _ n3).trans (by rw [← hjb2]; exact blk_drawn hd c3)) ((hk _ n0).trans (blk_drawn hd c0))
        have hact : act m p false = (⟨5, p, k1, rd m.jobs k1 - (k2 - 1) - 1⟩, { m with workers := setW m p ⟨2, k1, k2 - 1⟩ }) := by simp only [act, hx]; rw [if_neg hp0, if_neg hpn, if_neg (by simp), if_pos trivial, if_pos hz]
        rw [hact]
        exact this
      · refine ⟨85, #[ptr w.heap.size, ptr (w.heap.size + 3), ptr (w.heap.size + 2), ptr (w.heap.size + 1)], by simp [funW, hx, hz], fun w => enters_ Try.func85 (by kernel_rfl) rfl _ w, fun W2 x h5 hk => ?_⟩
        have := do85 W2 g s { m with picks := x } (p - 1) p k1 bW cW _ _ _ _ h5 (ok_picks hO x) hs hj0 hj1 ((hk _ n0).trans (blk_drawn hd c0)) ((hk _ n3).trans (by rw [← hjb2]; exact blk_drawn hd c3)) ((hk _ n2).trans (by rw [ha]; exact blk_drawn hd c2)) ((hk _ n1).trans (blk_drawn hd c1)) g3 g1
        have hact : act m p false = (⟨6, p, k1, 0⟩, { m with given := m.given ++ [k1], judged := m.judged + 1, workers := setW m p ⟨1, 0, 0⟩ }) := by simp only [act, hx]; rw [if_neg hp0, if_neg hpn, if_neg (by simp), if_pos trivial, if_neg hz]
        rw [hact]
        exact this
  · simp [readyW, hx] at ht
  · have hjb2 : jb = -1 := by rw [← hjb, hx]; simp [jobOf]
    cases stop with
    | true =>
      rw [if_pos ⟨by decide, .inl rfl⟩] at hd
      refine ⟨81, #[ptr (w.heap.size + 2), ptr (w.heap.size + 4), ptr (w.heap.size + 1), ptr (w.heap.size + 3)], by simp [funW, hx], fun w => enters_ Try.func81 (by kernel_rfl) rfl _ w, fun W2 x h5 hk => ?_⟩
      have := do81 W2 g s { m with picks := x } (p - 1) 8 p jb bW cW _ _ _ _ h5 hs hj0 hj1 ((hk _ n2).trans (by rw [ha]; exact blk_drawn hd (blk_alloc c2 _))) ((hk _ n4).trans (blk_drawn hd (e4 8))) ((hk _ n1).trans (blk_drawn hd (blk_alloc c1 _))) ((hk _ n3).trans (blk_drawn hd (blk_alloc c3 _))) (by omega) (by omega) (by omega)
      have hact : act m p true = (⟨8, p, jb, 0⟩, { m with workers := setW m p ⟨0, 0, 0⟩ }) := by simp only [act]; rw [if_neg hp0, if_neg hpn, if_pos trivial, hjb]
      rw [hact]
      exact this
    | false =>
      by_cases hz : m.sent.length = 0
      · rw [if_pos ⟨by decide, .inr ⟨by decide, hz⟩⟩] at hd
        refine ⟨81, #[ptr (w.heap.size + 2), ptr (w.heap.size + 4), ptr (w.heap.size + 1), ptr (w.heap.size + 3)], by simp [funW, hx, hz], fun w => enters_ Try.func81 (by kernel_rfl) rfl _ w, fun W2 x h5 hk => ?_⟩
        have := do81 W2 g s { m with picks := x } (p - 1) 7 p jb bW cW _ _ _ _ h5 hs hj0 hj1 ((hk _ n2).trans (by rw [ha]; exact blk_drawn hd (blk_alloc c2 _))) ((hk _ n4).trans (blk_drawn hd (e4 7))) ((hk _ n1).trans (blk_drawn hd (blk_alloc c1 _))) ((hk _ n3).trans (blk_drawn hd (blk_alloc c3 _))) (by omega) (by omega) (by omega)
        have hact : act m p false = (⟨7, p, -1, 0⟩, { m with workers := setW m p ⟨0, 0, 0⟩ }) := by simp only [act, hx]; rw [if_neg hp0, if_neg hpn, if_neg (by simp), if_neg (by decide), if_pos hz]
        rw [hact, ← hjb2]
        exact this
      · rw [if_neg (by simp [hz])] at hd
        obtain ⟨q, rest, hq⟩ : ∃ q rest, m.sent = q :: rest := by
          cases h : m.sent with
          | nil => rw [h] at hz; simp at hz
          | cons q rest => exact ⟨q, rest, rfl⟩
        refine ⟨82, #[ptr w.heap.size, ptr (w.heap.size + 1)], by simp [funW, hx, hz], fun w => enters_ Try.func82 (by kernel_rfl) rfl _ w, fun W2 x h5 hk => ?_⟩
        have := do82 W2 g s { m with picks := x } p q rest bW cW _ _ h5 (ok_picks hO x) hs hp hp' hq ((hk _ n0).trans (blk_drawn hd c0)) ((hk _ n1).trans (blk_drawn hd c1))
        have hact : act m p false = (⟨4, p, m.sent.headD 0, 0⟩, tookM m p (m.sent.headD 0) m.sent.tail) := by simp only [act, hx]; rw [if_neg hp0, if_neg hpn, if_neg (by simp), if_neg (by decide), if_neg hz]
        rw [hact, hq]
        exact this
/-- The function that the process p runs. -/
theorem does_calls (w : World) (g : Nat) (s : Sh) (m : Mach) (p : Int) (stop : Bool) (fk : Nat) (hI : IsM w g s m) (hO : Ok m) (hp : 0 ≤ p) (hp' : p ≤ m.workers.length + 1) (hf : (procs m.workers.length)[p.toNat]? = some fk) :
    Calls Try.prog fk #[ptr g, .int .i64 p, .bool stop] w fun e w' => ∃ f, e = .returned (.tuple #[f, .bool (rdy m p stop)]) ∧ Below w.heap.size w w' ∧ (rdy m p stop = true → DoIs f w' g s m p stop) := by
  by_cases h0 : p = 0
  · subst h0
    simp [procs] at hf
    subst hf
    exact disp_does w g s m 0 stop hI hO rfl
  · by_cases h1 : p = m.workers.length + 1
    · have e : p.toNat = m.workers.length + 1 := by omega
      rw [e] at hf
      simp [procs] at hf
      subst hf
      exact coll_does w g s m p stop hI hO h1
    · obtain ⟨j, hj⟩ : ∃ j, p.toNat = j + 1 := ⟨p.toNat - 1, by omega⟩
      rw [hj] at hf
      have hjn : j < m.workers.length := by omega
      simp [procs, List.getElem?_append, hjn] at hf
      subst hf
      exact work_does w g s m p stop hI hO (by omega) (by omega)
theorem does_enters (n : Nat) (i : Nat) (fk : Nat) (hf : (procs n)[i]? = some fk) (args : Array Value) (w : World) : (callFunc fk args).run Try.prog w = .ok (.enter fk args) w := by
  have hm := List.mem_of_getElem? hf
  simp [procs] at hm
  rcases hm with rfl | ⟨_, rfl⟩ | rfl
  · exact enters_ Try.func69 (by kernel_rfl) rfl _ w
  · exact enters_ Try.func70 (by kernel_rfl) rfl _ w
  · exact enters_ Try.func71 (by kernel_rfl) rfl _ w
end Go.Proofs.Ythcchpbidbbiaaa.Sc
namespace Go.Proofs.Ythcchpbidbbiaaa.Sc
open Go.RowKit Go.Proofs.YthcchpbidbbiaaaW.PrintWords Go.Proofs.YthcchpbidbbiaaaW.PrintLast Go.Proofs.YthcchpbidbbiaaaW.PrintMore Go.Proofs.Ythcchpbidbbiaaa.PSchedSide
set_option linter.unusedVariables false
set_option linter.unusedSimpArgs false
theorem info64 : (Try.prog.info? 64).map (fun i => (i.zero, i.size, i.bytes)) = some (some (.agg #[.int .i64 0, .int .i64 0]), 2, 16) := by kernel_rfl
/-- The moves of one process. -/
def mvAt (m : Mach) (p : Int) : List S64 := (if rdy m p false then [⟨p, 0⟩] else []) ++ (if m.stopped && rdy m p true then [⟨p, 1⟩] else [])
def mvTo (m : Mach) : Nat → List S64
  | 0 => []
  | k + 1 => mvTo m k ++ mvAt m k
def mvs (m : Mach) : List S64 := mvTo m (m.workers.length + 2)
theorem mvAt_length (m : Mach) (p : Int) : (mvAt m p).length ≤ 2 := by
  unfold mvAt
  rw [List.length_append]
  split <;> split <;> simp
theorem mvTo_length (m : Mach) (k : Nat) : (mvTo m k).length ≤ 2 * k := by
  induction k with
  | zero => simp [mvTo]
  | succ k ih =>
    have := mvAt_length m k
    simp only [mvTo, List.length_append]
    omega
/-- Whether v's row is the row of xs, its spare room cut off. -/
theorem clip_run (A : Option Addr) (n c : Nat) (hc : n ≤ c) (W : World) : (Instr.slice 26 (.slice A n c) none (some (.int .i64 n)) (some (.int .i64 n))).run Try.prog W = .ok (.slice A n n) W := by
  obtain ⟨i0, hi, hzz⟩ := Option.map_eq_some_iff.1 info64
  have hel : Try.prog.elem 26 = 64 := by simp [Program.elem, Try.underlying26]
  have hu : Try.prog.underlying 26 = some (.slice (Try.prog.elem 26)) := by rw [hel]; exact Try.underlying26
  rw [run_slice_hm W 26 A n c hu .i64 .i64 n n (by omega) (by omega) (by omega), hel]
  have ha : (A.map fun x => x.add 0) = A := by cases A <;> simp [Addr.add]
  simp [sizeOf, typeInfo, hi, sliced, Result.andThen, ha]
set_option maxHeartbeats 4000000 in
set_option maxRecDepth 1000000 in
theorem clip_calls (A : Option Addr) (n c : Nat) (hc : n ≤ c) (w : World) : Calls Try.prog 55 #[.slice A n c] w fun e w' => e = .returned (.slice A n n) ∧ w' = w := by
  have h := clip_run A n c hc
  clear hc
  go_enter Try.func55, Try.ntmps55
  go_wp2
  go_ret
  exact ⟨rfl, rfl⟩
theorem notT {b : Bool} (h : (!b) = true) : b = false := by simpa using h
theorem notF {b : Bool} (h : (!b) = false) : b = true := by simpa using h
section
variable {m : Mach} {k : Nat}
theorem mvA (h0 : rdy m k false = true) (hs : m.stopped = false) : mvTo m (k + 1) = mvTo m k ++ [⟨k, 0⟩] := by simp [mvTo, mvAt, h0, hs]
theorem mvB (h0 : rdy m k false = false) (hs : m.stopped = false) : mvTo m (k + 1) = mvTo m k := by simp [mvTo, mvAt, h0, hs]
theorem mvC (h0 : rdy m k false = true) (hs : m.stopped = true) (h1 : rdy m k true = true) : mvTo m (k + 1) = mvTo m k ++ [⟨k, 0⟩] ++ [⟨k, 1⟩] := by simp [mvTo, mvAt, h0, hs, h1]
theorem mvD (h0 : rdy m k false = true) (hs : m.stopped = true) (h1 : rdy m k true = false) : mvTo m (k + 1) = mvTo m k ++ [⟨k, 0⟩] := by simp [mvTo, mvAt, h0, hs, h1]
theorem mvE (h0 : rdy m k false = false) (hs : m.stopped = true) (h1 : rdy m k true = true) : mvTo m (k + 1) = mvTo m k ++ [⟨k, 1⟩] := by simp [mvTo, mvAt, h0, hs, h1]
theorem mvF (h0 : rdy m k false = false) (hs : m.stopped = true) (h1 : rdy m k true = false) : mvTo m (k + 1) = mvTo m k := by simp [mvTo, mvAt, h0, hs, h1]
end
set_option maxHeartbeats 8000000 in
set_option maxRecDepth 1000000 in
theorem ready_calls (w : World) (g : Nat) (s : Sh) (m : Mach) (hI : IsM w g s m) (hO : Ok m) :
    Calls Try.prog 34 #[ptr g] w fun e w' => ∃ A c, e = .returned (.slice A (mvs m).length (mvs m).length) ∧ Kd.R k64 64 w' w.heap.size (fun _ => True) (.slice A (mvs m).length c) (mvs m) ∧ Below w.heap.size w w' := by
  have b8 : m.workers.length ≤ 8 := by have := hO.nw; have := hO.pw; omega
  have HI := Aside0.mk hI
  have HOk := Aside0.mk hO
  have HB8 := Aside0.mk b8
  have hst0 := hI.cells.2.2.2.2.2.2.2.2.2.2.2.2.2.1
  obtain ⟨st, hst⟩ : ∃ st, m.stopped = st := ⟨_, rfl⟩
  rw [hst] at hst0
  have HST := Aside0.mk hst
  clear hI hO hst
  go_enter Try.func34, Try.ntmps34
  go_wp2_with (first | (go_at_call 53; (with_reducible refine (processes_calls w g _ m HI.out HB8.out).mono ?_); rintro e W1 ⟨v, rfl, ho, hb⟩; obtain ⟨AP, cP, hv⟩ := Kd.R_slice ho; subst hv; have HP := Aside0.mk ho; have HI1 := Aside0.mk (HI.out.below hb); have HB1 := Aside0.mk hb; have hst1 := pw_cell_below hb hst0; clear ho hb))
  obtain ⟨bP, cP', hPf⟩ := own_form (Kd.R_lower HP.out (Nat.zero_le _) |> fun h => Own.of rfl h) (by rw [procs_length]; omega)
  simp only [Value.slice.injEq] at hPf
  obtain ⟨rfl, _, rfl⟩ := hPf
  have HPC := Aside0.mk (fun (i : Int) (h0 : 0 ≤ i) (h1 : i < (procs m.workers.length).length) => (Kd.R_cell (enc := encF g) (h1 := fun _ => rfl) (0 : Nat) HP.out i h0 h1).1)
  obtain ⟨n, hn⟩ : ∃ n, (procs m.workers.length).length = n := ⟨_, rfl⟩
  have HN := Aside0.mk (show n = m.workers.length + 2 from by rw [← hn]; exact procs_length _)
  have HNL := Aside0.mk hn
  simp only [hn] at HPC
  (try rw [hn])
  clear hn hst0
  go_loopw [3, 13] (fun v i wr => ∃ k : Nat, i = .int .i64 k ∧ k ≤ n ∧ Kd.R k64 64 wr W1.heap.size (fun _ => True) v (mvTo m k) ∧ Below W1.heap.size W1 wr) (fun _ i _ => n - (intOf i).toNat)
  case atStart => exact ⟨0, rfl, Nat.zero_le _, Kd.R_nil _ _ _ _ _, Below.refl _ _⟩
  case round =>
    obtain ⟨k, rfl, hk, ho, hb⟩ := hrel
    have HO := Aside0.mk ho
    have HB := Aside0.mk hb
    clear ho hb
    have hn10 : n ≤ 10 := by have := HN.out; have := HB8.out; omega
    by_cases hlt : k < n
    · have p0 : decide ((k : Int) < (n : Int)) = true := decide_eq_true (by omega)
      have q0 := eq_true (show (k : Int) < (n : Int) by omega)
      obtain ⟨fk, hfk⟩ : ∃ fk, (procs m.workers.length)[k]? = some fk := ⟨_, List.getElem?_eq_getElem (by rw [HNL.out]; exact hlt)⟩
      have hcell := HPC.out k (Int.natCast_nonneg k) (by omega)
      have hrd : rdOf 0 (procs m.workers.length) k = fk := by unfold rdOf; rw [Int.toNat_natCast, List.getD_eq_getElem?_getD, hfk]; rfl
      rw [hrd, Int.toNat_natCast] at hcell
      unfold encF at hcell
      replace hcell := pw_cell_below HB.out hcell
      have hst2 := pw_cell_below HB.out hst1
      have HFK := Aside0.mk (show (procs m.workers.length)[(k : Int).toNat]? = some fk from hfk)
      have hent := does_enters m.workers.length k fk hfk
      have HK0 := Aside0.mk (Int.natCast_nonneg k)
      have HK1 := Aside0.mk (show (k : Int) ≤ m.workers.length + 1 from by have := HN.out; omega)
      have HLN := Aside0.mk (show (mvTo m k).length ≤ 20 from by have := mvTo_length m k; omega)
      clear hfk hrd
      go_wp2_with (first | ((with_reducible refine (does_calls _ g _ m k false fk (HI1.out.below HB.out) HOk.out HK0.out HK1.out HFK.out).mono ?_); rintro e w2 ⟨f2, rfl, hb2, _⟩; have n1_ := Aside0.mk (HB.out.trans (hb2.mono HB.out.size)); have n0_ := Aside0.mk (Kd.R_below HO.out hb2); clear HO HB; have HO := n0_; have HB := n1_; clear n0_ n1_ hb2; have hst3 := pw_cell_below HB.out hst1) | ((with_reducible refine (does_calls _ g _ m k true fk (HI1.out.below HB.out) HOk.out HK0.out HK1.out HFK.out).mono ?_); rintro e w2 ⟨f2, rfl, hb2, _⟩; have n1_ := Aside0.mk (HB.out.trans (hb2.mono HB.out.size)); have n0_ := Aside0.mk (Kd.R_below HO.out hb2); clear HO HB; have HO := n0_; have HB := n1_; clear n0_ n1_ hb2; have hst3 := pw_cell_below HB.out hst1) | ((with_reducible refine gate_builtin (b := .append) (xs := #[.tmp 25, .tmp 28]) rfl ?_); at_builtin; refine Kd.R_append k64 (w0 := W1) W1.heap.size rfl (.tmp 25) (.tmp 28) 26 64 (.agg #[.int .i64 0, .int .i64 0]) 16 rfl Try.underlying26 info64 rfl (by decide) (by omega) _ _ ⟨k, 0⟩ [.int .i64 k, .int .i64 0] (fun _ => True) (fun _ => False) rfl rfl ?aP (fun _ hk => hk.elim) ?aF HO.out HB.out ?aS ?aL ?_; (case aP => exact k64_mkM _ _ _ (⟨k, 0⟩ : S64)); (case aF => exact (fun _ _ => trivial)); (case aS => exact HB.out.size); (case aL => have := HLN.out; (try simp only [List.length_append, List.length_cons, List.length_nil]); omega); intro v1 w1 ho hb hgr hat; have n0_ := Aside0.mk ho; have n1_ := Aside0.mk hb; clear HO HB; have HO := n0_; have HB := n1_; clear n0_ n1_ ho hb hgr hat; have hst4 := pw_cell_below HB.out hst1) | ((with_reducible refine gate_builtin (b := .append) (xs := #[.tmp 42, .tmp 45]) rfl ?_); at_builtin; refine Kd.R_append k64 (w0 := W1) W1.heap.size rfl (.tmp 42) (.tmp 45) 26 64 (.agg #[.int .i64 0, .int .i64 0]) 16 rfl Try.underlying26 info64 rfl (by decide) (by omega) _ _ ⟨k, 1⟩ [.int .i64 k, .int .i64 1] (fun _ => True) (fun _ => False) rfl rfl ?aP (fun _ hk => hk.elim) ?aF HO.out HB.out ?aS ?aL ?_; (case aP => exact k64_mkM _ _ _ (⟨k, 1⟩ : S64)); (case aF => exact (fun _ _ => trivial)); (case aS => exact HB.out.size); (case aL => have := HLN.out; (try simp only [List.length_append, List.length_cons, List.length_nil]); omega); intro v1 w1 ho hb hgr hat; have n0_ := Aside0.mk ho; have n1_ := Aside0.mk hb; clear HO HB; have HO := n0_; have HB := n1_; clear n0_ n1_ ho hb hgr hat; have hst4 := pw_cell_below HB.out hst1))
      all_goals
        go_roundw
        case rel => first | exact ⟨k + 1, by go_num, by omega, by rw [mvA (by assumption) (HST.out.trans (notT (by assumption)))]; exact HO.out, HB.out⟩ | exact ⟨k + 1, by go_num, by omega, by rw [mvB (by assumption) (HST.out.trans (notT (by assumption)))]; exact HO.out, HB.out⟩ | exact ⟨k + 1, by go_num, by omega, by rw [mvC (by assumption) (HST.out.trans (notF (by assumption))) (by assumption)]; exact HO.out, HB.out⟩ | exact ⟨k + 1, by go_num, by omega, by rw [mvD (by assumption) (HST.out.trans (notF (by assumption))) (by assumption)]; exact HO.out, HB.out⟩ | exact ⟨k + 1, by go_num, by omega, by rw [mvE (by assumption) (HST.out.trans (notF (by assumption))) (by assumption)]; exact HO.out, HB.out⟩ | exact ⟨k + 1, by go_num, by omega, by rw [mvF (by assumption) (HST.out.trans (notF (by assumption))) (by assumption)]; exact HO.out, HB.out⟩
        case measure => simp [intOf]; omega
    · have p0 : decide ((k : Int) < (n : Int)) = false := decide_eq_false (by omega)
      have hkn : k = n := by omega
      subst hkn
      have HKN := HN.out
      subst HKN
      obtain ⟨A, c, hv⟩ := Kd.R_slice HO.out
      subst hv
      have hlc := (Kd.R_reads' HO.out).2.1
      go_wp2_with (first | (go_at_call 55; (with_reducible refine (clip_calls _ _ _ hlc _).mono ?_); rintro e w2 ⟨rfl, rfl⟩))
      go_ret
      exact ⟨A, c, rfl, Kd.R_mono (Kd.R_lower HO.out HB1.out.size) (fun _ h => h), HB1.out.trans (HB.out.mono HB1.out.size)⟩
end Go.Proofs.Ythcchpbidbbiaaa.Sc
namespace Go.Proofs.Ythcchpbidbbiaaa.Sc
open Go.RowKit Go.Proofs.YthcchpbidbbiaaaW.PrintWords Go.Proofs.YthcchpbidbbiaaaW.PrintLast Go.Proofs.YthcchpbidbbiaaaW.PrintMore Go.Proofs.Ythcchpbidbbiaaa.PSchedSide
set_option linter.unusedVariables false
set_option linter.unusedSimpArgs false
theorem mem_mvTo {m : Mach} {x : S64} {k : Nat} : x ∈ mvTo m k ↔ ∃ j, j < k ∧ x ∈ mvAt m j := by
  induction k with
  | zero => simp [mvTo]
  | succ k ih =>
    simp only [mvTo, List.mem_append, ih]
    constructor
    · rintro (⟨j, h1, h2⟩ | h)
      · exact ⟨j, by omega, h2⟩
      · exact ⟨k, by omega, h⟩
    · rintro ⟨j, h1, h2⟩
      by_cases hj : j = k
      · subst hj; exact .inr h2
      · exact .inl ⟨j, by omega, h2⟩
theorem mem_mvAt {m : Mach} {x : S64} {p : Int} : x ∈ mvAt m p ↔ x.f0 = p ∧ ((x.f1 = 0 ∧ rdy m p false = true) ∨ (x.f1 = 1 ∧ m.stopped = true ∧ rdy m p true = true)) := by
  obtain ⟨a, b⟩ := x
  unfold mvAt
  by_cases h0 : rdy m p false = true <;> by_cases h1 : rdy m p true = true <;> by_cases h2 : m.stopped = true <;> simp [h0, h1, h2]
  · constructor
    · rintro (⟨rfl, rfl⟩ | ⟨rfl, rfl⟩) <;> simp
    · rintro ⟨rfl, rfl | rfl⟩ <;> simp
theorem mem_mvs {m : Mach} {x : S64} : x ∈ mvs m ↔ 0 ≤ x.f0 ∧ x.f0 ≤ m.workers.length + 1 ∧ ((x.f1 = 0 ∧ rdy m x.f0 false = true) ∨ (x.f1 = 1 ∧ m.stopped = true ∧ rdy m x.f0 true = true)) := by
  unfold mvs
  rw [mem_mvTo]
  constructor
  · rintro ⟨j, h1, h2⟩
    rw [mem_mvAt] at h2
    obtain ⟨h3, h4⟩ := h2
    rw [h3]
    exact ⟨by omega, by omega, h4⟩
  · rintro ⟨h1, h2, h3⟩
    refine ⟨x.f0.toNat, by omega, ?_⟩
    rw [mem_mvAt, show ((x.f0.toNat : Nat) : Int) = x.f0 by omega]
    exact ⟨rfl, h3⟩
theorem four_at {W : World} {e : Nat} {cs : Array Value} (he : W.heap[e]? = some (.cells cs 42 (0, 0))) (hs : cs.size = 4) (a b c d : Value) : ((((W.setCell ⟨e, 0, none⟩ a).setCell ⟨e, 1, none⟩ b).setCell ⟨e, 2, none⟩ c).setCell ⟨e, 3, none⟩ d).heap[e]? = some (.cells #[a, b, c, d] 42 (0, 0)) := by
  have h3 := blk_set (blk_set (blk_set (blk_set he 0 a) 1 b) 2 c) 3 d
  rw [h3]
  obtain ⟨x0, x1, x2, x3, rfl⟩ : ∃ x0 x1 x2 x3, cs = #[x0, x1, x2, x3] := by
    obtain ⟨l⟩ := cs
    match l, hs with
    | [x0, x1, x2, x3], _ => exact ⟨x0, x1, x2, x3, rfl⟩
  rfl
theorem below_four {w W : World} {e : Nat} (hb : Below w.heap.size w W) (he : w.heap.size ≤ e) (a b c d : Value) : Below w.heap.size w ((((W.setCell ⟨e, 0, none⟩ a).setCell ⟨e, 1, none⟩ b).setCell ⟨e, 2, none⟩ c).setCell ⟨e, 3, none⟩ d) :=
  (((hb.setCell he a).setCell he b).setCell he c).setCell he d
set_option maxHeartbeats 8000000 in
set_option maxRecDepth 1000000 in
theorem take_no (w : World) (g : Nat) (s : Sh) (m : Mach) (x : S64) (hI : IsM w g s m) (hO : Ok m) (hx : x ∉ mvs m) :
    Calls Try.prog 30 #[ptr g, .agg #[.int .i64 x.f0, .int .i64 x.f1]] w fun e w' => e = .returned (.tuple #[ev 0 0 0 0, .int .i64 180]) ∧ Below w.heap.size w w' := by
  obtain ⟨x0, x1⟩ := x
  simp only []
  obtain ⟨W0, hW0⟩ : ∃ W0, (w.alloc (.cells #[.int .i64 x0, .int .i64 x1] 64)).alloc (.cells #[.int .i64 0, .int .i64 0, .int .i64 0, .int .i64 0] 42) = W0 := ⟨_, rfl⟩
  have hb0 : Below w.heap.size w W0 := by rw [← hW0]; exact below_alloc (below_alloc (Below.refl _ _) _) _
  have hbx : W0.heap[w.heap.size]? = some (.cells #[.int .i64 x0, .int .i64 x1] 64 (0, 0)) := by rw [← hW0]; exact blk_alloc (heap_alloc_new w _) _
  have hbe : W0.heap[w.heap.size + 1]? = some (.cells #[.int .i64 0, .int .i64 0, .int .i64 0, .int .i64 0] 42 (0, 0)) := by rw [← hW0]; exact new_at _ (by simp)
  have HI := Aside0.mk (hI.below hb0)
  have HO := Aside0.mk hO
  have HX := Aside0.mk hx
  have HB0 := Aside0.mk hb0
  have HBX := Aside0.mk hbx
  have HBE := Aside0.mk hbe
  clear hI hO hx hb0 hbx hbe
  go_enter Try.func30, Try.ntmps30
  go_wp2_with (first | (go_at_call 34; (with_reducible refine (ready_calls W0 g _ m HI.out HO.out).mono ?_); rintro e W1 ⟨A, c, rfl, ho, hb⟩; have HR := Aside0.mk ho; have HB1 := Aside0.mk hb; clear ho hb))
  have HXE := Aside0.mk ((HB1.out.block _ (blk_lt HBE.out)).trans HBE.out)
  have HXX := Aside0.mk ((HB1.out.block _ (blk_lt HBX.out)).trans HBX.out)
  have HC := Aside0.mk (Kd.R_reads' HR.out).2.2
  obtain ⟨n, hn⟩ : ∃ n, (mvs m).length = n := ⟨_, rfl⟩
  have HN := Aside0.mk hn
  rw [hn] at HC
  (try rw [hn])
  have hn20 : n ≤ 20 := by
    have h1 := mvTo_length m (m.workers.length + 2)
    have h2 := HO.out.nw
    have h3 := HO.out.pw
    have h4 : (mvTo m (m.workers.length + 2)).length = n := hn
    omega
  clear hn
  go_loopw [13] (fun i wr => ∃ k : Nat, i = .int .i64 k ∧ k ≤ n ∧ Below W1.heap.size W1 wr) (fun i _ => n - (intOf i).toNat)
  case atStart => exact ⟨0, rfl, Nat.zero_le _, Below.refl _ _⟩
  case round =>
    obtain ⟨k, rfl, hk, hb⟩ := hrel
    have HB := Aside0.mk hb
    clear hb
    have bx := Aside0.mk ((HB.out.block _ (blk_lt HXX.out)).trans HXX.out)
    have be := Aside0.mk ((HB.out.block _ (blk_lt HXE.out)).trans HXE.out)
    by_cases hlt : k < n
    · have p0 : decide ((k : Int) < (n : Int)) = true := decide_eq_true (by omega)
      have q0 := eq_true (show (k : Int) < (n : Int) by omega)
      obtain ⟨ad, ead, hy0, hy1⟩ := at_T64 HC.out k (Int.natCast_nonneg k) (by omega)
      obtain ⟨y0, y1, hy⟩ : ∃ y0 y1, rd_T64 (mvs m) k = ⟨y0, y1⟩ := ⟨_, _, rfl⟩
      have hym : (⟨y0, y1⟩ : S64) ∈ mvs m := by
        rw [← hy]
        unfold rd_T64
        have h5 : (k : Int).toNat < (mvs m).length := by have := HN.out; omega
        rw [List.getD_eq_getElem?_getD, List.getElem?_eq_getElem h5]
        exact List.getElem_mem h5
      have hne : ¬ (x0 = y0 ∧ x1 = y1) := by
        rintro ⟨rfl, rfl⟩
        exact HX.out hym
      rw [hy] at hy0 hy1
      simp only [Int.toNat_natCast] at hy0 hy1
      subst ead
      replace hy0 := pw_cell_below HB.out hy0
      replace hy1 := pw_cell_below HB.out hy1
      have z0 : wr.cell? ⟨w.heap.size, 0, none⟩ = some (.int .i64 x0) := (blk_cell bx.out 0).trans rfl
      have z1 : wr.cell? ⟨w.heap.size, 1, none⟩ = some (.int .i64 x1) := (blk_cell bx.out 1).trans rfl
      have lx := blk_lt bx.out
      clear hy hym
      by_cases h0 : x0 = y0
      · have b1 : (x1 == y1) = false := beq_eq_false_iff_ne.mpr (fun h => hne ⟨h0, h⟩)
        have b0 : (x0 == y0) = true := by simp [h0]
        clear hne h0
        go_wp2
        go_roundw
        case rel => exact ⟨k + 1, by go_num, by omega, below_alloc HB.out _⟩
        case measure => simp [intOf]; omega
      · have b0 : (x0 == y0) = false := beq_eq_false_iff_ne.mpr h0
        clear hne h0
        go_wp2
        go_roundw
        case rel => exact ⟨k + 1, by go_num, by omega, below_alloc HB.out _⟩
        case measure => simp [intOf]; omega
    · have p0 : decide ((k : Int) < (n : Int)) = false := decide_eq_false (by omega)
      have u0 : wr.cell? ⟨w.heap.size + 1, 0, none⟩ = some (.int .i64 0) := (blk_cell be.out 0).trans rfl
      have u1 : wr.cell? ⟨w.heap.size + 1, 1, none⟩ = some (.int .i64 0) := (blk_cell be.out 1).trans rfl
      have u2 : wr.cell? ⟨w.heap.size + 1, 2, none⟩ = some (.int .i64 0) := (blk_cell be.out 2).trans rfl
      have u3 : wr.cell? ⟨w.heap.size + 1, 3, none⟩ = some (.int .i64 0) := (blk_cell be.out 3).trans rfl
      have v0 := blk_frozen be.out 0
      have v1 := blk_frozen be.out 1
      have v2 := blk_frozen be.out 2
      have v3 := blk_frozen be.out 3
      go_wp2
      have h4 := four_at be.out rfl (.int .i64 0) (.int .i64 0) (.int .i64 0) (.int .i64 0)
      exact bodyPost_ret (v := .tuple #[ev 0 0 0 0, .int .i64 180]) (results_list (rs := [.cell 4 42, .tmp 5]) rfl (by simp) (.cell (w.heap.size + 1) 42 _ (0, 0) _ rfl h4 Try.underlying42 rfl (by kernel_rfl) (.tmp .nil))) rfl ⟨rfl, below_four (HB0.out.trans (((HB1.out.trans (HB.out.mono HB1.out.size))).mono HB0.out.size)) (by omega) _ _ _ _⟩
end Go.Proofs.Ythcchpbidbbiaaa.Sc
namespace Go.Proofs.Ythcchpbidbbiaaa.Sc
open Go.RowKit Go.Proofs.YthcchpbidbbiaaaW.PrintWords Go.Proofs.YthcchpbidbbiaaaW.PrintLast Go.Proofs.YthcchpbidbbiaaaW.PrintMore Go.Proofs.Ythcchpbidbbiaaa.PSchedSide
set_option linter.unusedVariables false
set_option linter.unusedSimpArgs false
section
variable {P : Program} {ops : Array Oper} {Q : Exit → Act → World → Prop}
/-- A call of a function value. -/
theorem goesV_ {oi : Oper} {N : Option Tmp} {a : Act} {w : World} {K : Act → World → Prop} {f : FuncId} {first caps : Array Value} {x : Operand} {ys : Array Operand} {ts : Array TypeId} (hent : ∀ (args : Array Value) (w : World), (callFunc f args).run P w = .ok (.enter f args) w) (args : Array Value)
    (hw : Region.wanted oi (yielded ops a.tmps) = true) (hN : oi.dst = N) (hop : oi.op = .call { callee := .value x, args := ys, argTypes := ts }) (hx : a.eval x = .func (.func f) first caps) (hargs : first ++ ys.map a.eval ++ caps = args)
    (h : Calls P f args w fun e w' => ∃ v, e = .returned v ∧ K (a.put N v) w') : if Region.wanted oi (yielded ops a.tmps) = true then Oper.wp P oi a w K Q else K (a.put N undef) w := by
  refine call_ f args hw hN ?_ h
  unfold execOp
  simp only [hop, resolve, hx, Deferred.ofValue, invoke, Sem.run_bind, Sem.run_pure, Result.andThen_ok]
  rw [hargs]
  exact hent args w
end
set_option maxHeartbeats 8000000 in
set_option maxRecDepth 1000000 in
theorem take_yes (w : World) (g : Nat) (s : Sh) (m : Mach) (x : S64) (stop : Bool) (hI : IsM w g s m) (hO : Ok m) (hpk : 0 ≤ m.picks ∧ m.picks ≤ 4000000) (hx : x ∈ mvs m) (hs : x.f1 = if stop then 1 else 0) :
    Calls Try.prog 30 #[ptr g, .agg #[.int .i64 x.f0, .int .i64 x.f1]] w fun e w' => e = .returned (.tuple #[(act m x.f0 stop).1.v, .int .i64 0]) ∧ Moved w g s { (act m x.f0 stop).2 with picks := m.picks + 1 } w' := by
  obtain ⟨x0, x1⟩ := x
  simp only [] at hs ⊢
  have hmem := mem_mvs.1 hx
  simp only [] at hmem
  obtain ⟨hp0, hp1, hrr⟩ := hmem
  have hry : rdy m x0 stop = true := by
    rcases hrr with ⟨h1, h2⟩ | ⟨h1, h2, h3⟩
    · cases stop with
      | false => exact h2
      | true => rw [h1] at hs; simp at hs
    · cases stop with
      | true => exact h3
      | false => rw [h1] at hs; simp at hs
  have hstop : (x1 == 1) = stop := by rw [hs]; cases stop <;> rfl
  have b8 : m.workers.length ≤ 8 := by have := hO.nw; have := hO.pw; omega
  obtain ⟨fk, hfk⟩ : ∃ fk, (procs m.workers.length)[x0.toNat]? = some fk := ⟨_, List.getElem?_eq_getElem (by rw [procs_length]; omega)⟩
  have HFK := Aside0.mk hfk
  have HRD := Aside0.mk (show rdOf 0 (procs m.workers.length) x0 = fk from by unfold rdOf; rw [List.getD_eq_getElem?_getD, hfk]; rfl)
  have HENT := Aside0.mk (does_enters m.workers.length _ fk hfk)
  have HP := Aside0.mk (And.intro hp0 hp1)
  have HRY := Aside0.mk hry
  have HB8 := Aside0.mk b8
  have HPK := Aside0.mk hpk
  clear hrr hfk hp0 hp1 hry b8 hpk hs
  obtain ⟨W0, hW0⟩ : ∃ W0, (w.alloc (.cells #[.int .i64 x0, .int .i64 x1] 64)).alloc (.cells #[.int .i64 0, .int .i64 0, .int .i64 0, .int .i64 0] 42) = W0 := ⟨_, rfl⟩
  have hb0 : Below w.heap.size w W0 := by rw [← hW0]; exact below_alloc (below_alloc (Below.refl _ _) _) _
  have hbx : W0.heap[w.heap.size]? = some (.cells #[.int .i64 x0, .int .i64 x1] 64 (0, 0)) := by rw [← hW0]; exact blk_alloc (heap_alloc_new w _) _
  have hbe : W0.heap[w.heap.size + 1]? = some (.cells #[.int .i64 0, .int .i64 0, .int .i64 0, .int .i64 0] 42 (0, 0)) := by rw [← hW0]; exact new_at _ (by simp)
  have HI := Aside0.mk (hI.below hb0)
  have HO := Aside0.mk hO
  have HX := Aside0.mk (show ∃ i, i < (mvs m).length ∧ (mvs m)[i]? = some ⟨x0, x1⟩ from by
    obtain ⟨i, hi, e⟩ := List.getElem_of_mem hx
    exact ⟨i, hi, by rw [List.getElem?_eq_getElem hi, e]⟩)
  have HI0 := Aside0.mk hI
  have HB0 := Aside0.mk hb0
  have HBX := Aside0.mk hbx
  have HBE := Aside0.mk hbe
  have HF := Aside0.mk (show ∀ k, Foot g s k → k ≠ w.heap.size + 1 from fun k hk e => by have := hI.foot_lt k hk; omega)
  clear hI hO hx hb0 hbx hbe
  go_enter Try.func30, Try.ntmps30
  go_wp2_with (first | (go_at_call 34; (with_reducible refine (ready_calls W0 g _ m HI.out HO.out).mono ?_); rintro e W1 ⟨A, c, rfl, ho, hb⟩; have HR := Aside0.mk ho; have HB1 := Aside0.mk hb; clear ho hb))
  have HXE := Aside0.mk ((HB1.out.block _ (blk_lt HBE.out)).trans HBE.out)
  have HXX := Aside0.mk ((HB1.out.block _ (blk_lt HBX.out)).trans HBX.out)
  have HC := Aside0.mk (Kd.R_reads' HR.out).2.2
  obtain ⟨n, hn⟩ : ∃ n, (mvs m).length = n := ⟨_, rfl⟩
  have HN := Aside0.mk hn
  rw [hn] at HC
  (try rw [hn])
  have hn20 : n ≤ 20 := by
    have h1 := mvTo_length m (m.workers.length + 2)
    have h2 := HO.out.nw
    have h3 := HO.out.pw
    have h4 : (mvTo m (m.workers.length + 2)).length = n := hn
    omega
  clear hn
  go_loopw [13] (fun i wr => ∃ k : Nat, i = .int .i64 k ∧ k ≤ n ∧ (∃ i, k ≤ i ∧ i < n ∧ (mvs m)[i]? = some ⟨x0, x1⟩) ∧ Below W1.heap.size W1 wr) (fun i _ => n - (intOf i).toNat)
  case atStart => exact ⟨0, rfl, Nat.zero_le _, by obtain ⟨i, h1, h2⟩ := HX.out; exact ⟨i, Nat.zero_le _, by have := HN.out; omega, h2⟩, Below.refl _ _⟩
  case round =>
    obtain ⟨k, rfl, hk, ⟨i, hik, hin, hit⟩, hb⟩ := hrel
    have HB := Aside0.mk hb
    clear hb
    have bx := Aside0.mk ((HB.out.block _ (blk_lt HXX.out)).trans HXX.out)
    have be := Aside0.mk ((HB.out.block _ (blk_lt HXE.out)).trans HXE.out)
    by_cases hlt : k < n
    · have p0 : decide ((k : Int) < (n : Int)) = true := decide_eq_true (by omega)
      have q0 := eq_true (show (k : Int) < (n : Int) by omega)
      obtain ⟨ad, ead, hy0, hy1⟩ := at_T64 HC.out k (Int.natCast_nonneg k) (by omega)
      obtain ⟨y0, y1, hy⟩ : ∃ y0 y1, rd_T64 (mvs m) k = ⟨y0, y1⟩ := ⟨_, _, rfl⟩
      rw [hy] at hy0 hy1
      simp only [Int.toNat_natCast] at hy0 hy1
      subst ead
      replace hy0 := pw_cell_below HB.out hy0
      replace hy1 := pw_cell_below HB.out hy1
      have z0 : wr.cell? ⟨w.heap.size, 0, none⟩ = some (.int .i64 x0) := (blk_cell bx.out 0).trans rfl
      have z1 : wr.cell? ⟨w.heap.size, 1, none⟩ = some (.int .i64 x1) := (blk_cell bx.out 1).trans rfl
      have lx := blk_lt bx.out
      have hyk : (mvs m)[k]? = some ⟨y0, y1⟩ := by
        have h5 : k < (mvs m).length := by have := HN.out; omega
        rw [← hy]
        unfold rd_T64
        rw [Int.toNat_natCast, List.getD_eq_getElem?_getD, List.getElem?_eq_getElem h5]
        rfl
      clear hy
      by_cases heq : x0 = y0 ∧ x1 = y1
      · obtain ⟨rfl, rfl⟩ := heq
        have b0 : (x0 == x0) = true := by simp
        have b1 : (x1 == x1) = true := by simp
        have HI' := Aside0.mk ((((HI.out.below HB1.out).below HB.out).alloc (.cells #[.int .i64 x0, .int .i64 x1] 64)).drew)
        have be' := Aside0.mk (show ((wr.alloc (.cells #[.int .i64 x0, .int .i64 x1] 64)).drew).heap[w.heap.size + 1]? = _ from blk_alloc be.out _)
        have bx4 := Aside0.mk (show ((wr.alloc (.cells #[.int .i64 x0, .int .i64 x1] 64)).drew).heap[w.heap.size]? = _ from blk_alloc bx.out _)
        have HB4 := Aside0.mk (show Below w.heap.size w (wr.alloc (.cells #[.int .i64 x0, .int .i64 x1] 64)).drew from (HB0.out.trans (((HB1.out.trans (HB.out.mono HB1.out.size))).mono HB0.out.size)).trans ((below_drew (below_alloc (Below.refl _ _) _)).mono (Nat.le_trans HB0.out.size (Nat.le_trans HB1.out.size HB.out.size))))
        clear hyk hik hin hit
        go_wp2
        clear bx be HI
        have HI := HI'
        have be := be'
        have bx := bx4
        clear HI' be'
        refine start_ (n := 17) (S := fun w' => w'.heap[w.heap.size]? = some (.cells #[.int .i64 x0, .int .i64 x1] 64 (0, 0))) (ds := []) #[false, false, false, false, false, false, false, false, false, false, false, false, false, false, false, false, false] (by kernel_rfl) rfl rfl bx4.out (fun hHeld => ?_)
        generalize (wr.alloc (.cells #[.int .i64 x0, .int .i64 x1] 64)).drew = W at HI be bx hHeld HB4 ⊢
        refine pure_ (i := 0) (N := (some 21)) (v := ?_) (a' := ?_) #[true, false, false, false, false, false, false, false, false, false, false, false, false, false, false, false, false] rfl rfl (by kernel_rfl) (fun _ _ _ h => h) (Or.inl ⟨by rfl, ?_⟩) ?_ ?_
        rotate_left
        · intro w'
          go_simp
          with_reducible rfl
        rotate_left
        · simp only [Act.put, List.setIfInBounds_toArray, List.set_cons_zero, List.set_cons_succ, i64_w, i32_w]
          rfl
        refine pure_ (i := 2) (N := (some 23)) (v := ?_) (a' := ?_) #[true, false, true, false, false, false, false, false, false, false, false, false, false, false, false, false, false] rfl rfl (by kernel_rfl) (fun _ _ _ h => h) (Or.inl ⟨by rfl, ?_⟩) ?_ ?_
        rotate_left
        · intro w'
          go_simp
          with_reducible rfl
        rotate_left
        · simp only [Act.put, List.setIfInBounds_toArray, List.set_cons_zero, List.set_cons_succ, i64_w, i32_w]
          rfl
        refine take_ (i := 3) (N := (some 24)) (v := ?_) (a' := ?_) #[true, false, true, true, false, false, false, false, false, false, false, false, false, false, false, false, false] rfl rfl (by kernel_rfl) (fun _ _ _ h => h) (Or.inl ⟨by rfl, ?_⟩) hHeld ?_ ?_
        rotate_left
        · intro w' s0
          have t0 : w'.cell? ⟨w.heap.size, 0, none⟩ = some (.int .i64 x0) := (blk_cell s0 0).trans rfl
          have t1 : w'.cell? ⟨w.heap.size, 1, none⟩ = some (.int .i64 x1) := (blk_cell s0 1).trans rfl
          go_simp
          with_reducible rfl
        rotate_left
        · simp only [Act.put, List.setIfInBounds_toArray, List.set_cons_zero, List.set_cons_succ, i64_w, i32_w]
          rfl
        refine pure_ (i := 6) (N := (some 27)) (v := ?_) (a' := ?_) #[true, false, true, true, false, false, true, false, false, false, false, false, false, false, false, false, false] rfl rfl (by kernel_rfl) (fun _ _ _ h => h) (Or.inl ⟨by rfl, ?_⟩) ?_ ?_
        rotate_left
        · intro w'
          go_simp
          with_reducible rfl
        rotate_left
        · simp only [Act.put, List.setIfInBounds_toArray, List.set_cons_zero, List.set_cons_succ, i64_w, i32_w]
          rfl
        refine take_ (i := 7) (N := (some 28)) (v := ?_) (a' := ?_) #[true, false, true, true, false, false, true, true, false, false, false, false, false, false, false, false, false] rfl rfl (by kernel_rfl) (fun _ _ _ h => h) (Or.inl ⟨by rfl, ?_⟩) hHeld ?_ ?_
        rotate_left
        · intro w' s0
          have t0 : w'.cell? ⟨w.heap.size, 0, none⟩ = some (.int .i64 x0) := (blk_cell s0 0).trans rfl
          have t1 : w'.cell? ⟨w.heap.size, 1, none⟩ = some (.int .i64 x1) := (blk_cell s0 1).trans rfl
          go_simp
          with_reducible rfl
        rotate_left
        · simp only [Act.put, List.setIfInBounds_toArray, List.set_cons_zero, List.set_cons_succ, i64_w, i32_w]
          rfl
        refine pure_ (i := 8) (N := (some 29)) (v := ?_) (a' := ?_) #[true, false, true, true, false, false, true, true, true, false, false, false, false, false, false, false, false] rfl rfl (by kernel_rfl) (fun _ _ _ h => h) (Or.inl ⟨by rfl, ?_⟩) ?_ ?_
        rotate_left
        · intro w'
          go_simp
          with_reducible rfl
        rotate_left
        · simp only [Act.put, List.setIfInBounds_toArray, List.set_cons_zero, List.set_cons_succ, i64_w, i32_w]
          rfl
        refine take_ (i := 9) (N := (some 30)) (v := ?_) (a' := ?_) #[true, false, true, true, false, false, true, true, true, true, false, false, false, false, false, false, false] rfl rfl (by kernel_rfl) (fun _ _ _ h => h) (Or.inl ⟨by rfl, ?_⟩) hHeld ?_ ?_
        rotate_left
        · intro w' s0
          have t0 : w'.cell? ⟨w.heap.size, 0, none⟩ = some (.int .i64 x0) := (blk_cell s0 0).trans rfl
          have t1 : w'.cell? ⟨w.heap.size, 1, none⟩ = some (.int .i64 x1) := (blk_cell s0 1).trans rfl
          go_simp
          with_reducible rfl
        rotate_left
        · simp only [Act.put, List.setIfInBounds_toArray, List.set_cons_zero, List.set_cons_succ, i64_w, i32_w]
          rfl
        refine pure_ (i := 10) (N := (some 31)) (v := ?_) (a' := ?_) #[true, false, true, true, false, false, true, true, true, true, true, false, false, false, false, false, false] rfl rfl (by kernel_rfl) (fun _ _ _ h => h) (Or.inl ⟨by rfl, ?_⟩) ?_ ?_
        rotate_left
        · intro w'
          go_simp
          with_reducible rfl
        rotate_left
        · simp only [Act.put, List.setIfInBounds_toArray, List.set_cons_zero, List.set_cons_succ, i64_w, i32_w]
          rfl
        refine one_ (i := 1) (N := (some 22)) #[true, true, true, true, false, false, true, true, true, true, true, false, false, false, false, false, false] rfl rfl (by kernel_rfl) (by decide) (fun K hK => ?_)
        refine goes_ Try.func53 (by kernel_rfl) rfl #[ptr g] (by rfl) rfl rfl (by simp only [List.map_toArray, List.map_cons, List.map_nil]; rfl) ?_
        refine (processes_calls W g _ m HI.out HB8.out).mono ?_
        rintro e w1 ⟨v1, rfl, ho, hb⟩
        refine ⟨_, rfl, ?_⟩
        obtain ⟨AP, cP, hv⟩ := Kd.R_slice ho
        subst hv
        obtain ⟨bP, cP', hPf⟩ := own_form (Own.of rfl (Kd.R_lower ho (Nat.zero_le _))) (by rw [procs_length]; omega)
        simp only [Value.slice.injEq] at hPf
        obtain ⟨rfl, _, rfl⟩ := hPf
        have hcell := (Kd.R_cell (enc := encF g) (h1 := fun _ => rfl) (0 : Nat) ho x0 HP.out.1 (by rw [procs_length]; have := HP.out.2; omega)).1
        rw [HRD.out] at hcell
        unfold encF at hcell
        obtain ⟨np, hnp⟩ : ∃ np, (procs m.workers.length).length = np := ⟨_, rfl⟩
        rw [hnp]
        have j0 := eq_true HP.out.1
        have j1 := eq_true (show x0 < (np : Int) by rw [← hnp, procs_length]; have := HP.out.2; omega)
        clear hnp
        have HB2 := Aside0.mk hb
        have HI2 := Aside0.mk (HI.out.below hb)
        have bx2 := Aside0.mk ((hb.block _ (blk_lt bx.out)).trans bx.out)
        have be2 := Aside0.mk ((hb.block _ (blk_lt be.out)).trans be.out)
        clear ho hb
        refine hK.out _ _ bx2.out (fun hHeld => ?_)
        clear hK K
        refine norm_ (a' := ?_) ?_ ?_
        rotate_left
        · show Act.put _ (some 22) _ = _
          simp only [Act.put, List.setIfInBounds_toArray, List.set_cons_zero, List.set_cons_succ, i64_w, i32_w]
          rfl
        refine pure_ (i := 4) (N := (some 25)) (v := ?_) (a' := ?_) #[true, true, true, true, true, false, true, true, true, true, true, false, false, false, false, false, false] rfl rfl (by kernel_rfl) (fun _ _ _ h => h) (Or.inl ⟨by rfl, ?_⟩) ?_ ?_
        rotate_left
        · intro w'
          go_simp
          with_reducible rfl
        rotate_left
        · simp only [Act.put, List.setIfInBounds_toArray, List.set_cons_zero, List.set_cons_succ, i64_w, i32_w]
          rfl
        refine one_ (i := 5) (N := (some 26)) #[true, true, true, true, true, true, true, true, true, true, true, false, false, false, false, false, false] rfl rfl (by kernel_rfl) (by decide) (fun K hK => ?_)
        refine value_ (w1 := ?_) (v := ?_) (by rfl) rfl ?_ ?_
        rotate_left 2
        · go_simp
          constructor
          · rfl
          · rfl
        refine hK.out _ _ bx2.out (fun hHeld => ?_)
        clear hK K
        refine norm_ (a' := ?_) ?_ ?_
        rotate_left
        · show Act.put _ (some 26) _ = _
          simp only [Act.put, List.setIfInBounds_toArray, List.set_cons_zero, List.set_cons_succ, i64_w, i32_w]
          rfl
        refine one_ (i := 11) (N := (some 32)) #[true, true, true, true, true, true, true, true, true, true, true, true, false, false, false, false, false] rfl rfl (by kernel_rfl) (by decide) (fun K hK => ?_)
        refine goesV_ HENT.out #[ptr g, .int .i64 x0, .bool stop] (by rfl) rfl rfl rfl (by simp only [List.map_toArray, List.map_cons, List.map_nil]; rfl) ?_
        refine (does_calls w1 g _ m x0 stop fk HI2.out HO.out HP.out.1 HP.out.2 HFK.out).mono ?_
        rintro e w2 ⟨f, rfl, hb3, hdo⟩
        refine ⟨_, rfl, ?_⟩
        have HDO := Aside0.mk (hdo HRY.out)
        have HB3 := Aside0.mk hb3
        have HI3 := Aside0.mk (HI2.out.below hb3)
        have bx3 := Aside0.mk ((hb3.block _ (blk_lt bx2.out)).trans bx2.out)
        have be3 := Aside0.mk ((hb3.block _ (blk_lt be2.out)).trans be2.out)
        clear hb3 hdo
        refine hK.out _ _ bx3.out (fun hHeld => ?_)
        clear hK K
        refine norm_ (a' := ?_) ?_ ?_
        rotate_left
        · show Act.put _ (some 32) _ = _
          simp only [Act.put, List.setIfInBounds_toArray, List.set_cons_zero, List.set_cons_succ, i64_w, i32_w]
          rfl
        refine pure_ (i := 12) (N := (some 20)) (v := ?_) (a' := ?_) #[true, true, true, true, true, true, true, true, true, true, true, true, true, false, false, false, false] rfl rfl (by kernel_rfl) (fun _ _ _ h => h) (Or.inl ⟨by rfl, ?_⟩) ?_ ?_
        rotate_left
        · intro w'
          go_simp
          with_reducible rfl
        rotate_left
        · simp only [Act.put, List.setIfInBounds_toArray, List.set_cons_zero, List.set_cons_succ, i64_w, i32_w]
          rfl
        refine pure_ (i := 13) (N := (some 33)) (v := ?_) (a' := ?_) #[true, true, true, true, true, true, true, true, true, true, true, true, true, true, false, false, false] rfl rfl (by kernel_rfl) (fun _ _ _ h => h) (Or.inl ⟨by rfl, ?_⟩) ?_ ?_
        rotate_left
        · intro w'
          go_simp
          with_reducible rfl
        rotate_left
        · simp only [Act.put, List.setIfInBounds_toArray, List.set_cons_zero, List.set_cons_succ, i64_w, i32_w]
          rfl
        refine pure_ (i := 14) (N := (some 34)) (v := ?_) (a' := ?_) #[true, true, true, true, true, true, true, true, true, true, true, true, true, true, true, false, false] rfl rfl (by kernel_rfl) (fun _ _ _ h => h) (Or.inl ⟨by rfl, ?_⟩) ?_ ?_
        rotate_left
        · intro w'
          go_simp
          with_reducible rfl
        rotate_left
        · simp only [Act.put, List.setIfInBounds_toArray, List.set_cons_zero, List.set_cons_succ, i64_w, i32_w]
          rfl
        refine pure_ (i := 15) (N := (some 8)) (v := ?_) (a' := ?_) #[true, true, true, true, true, true, true, true, true, true, true, true, true, true, true, true, false] rfl rfl (by kernel_rfl) (fun _ _ _ h => h) (Or.inl ⟨by rfl, ?_⟩) ?_ ?_
        rotate_left
        · intro w'
          go_simp
          with_reducible rfl
        rotate_left
        · simp only [Act.put, List.setIfInBounds_toArray, List.set_cons_zero, List.set_cons_succ, i64_w, i32_w]
          rfl
        refine pure_ (i := 16) (N := (some 9)) (v := ?_) (a' := ?_) #[true, true, true, true, true, true, true, true, true, true, true, true, true, true, true, true, true] rfl rfl (by kernel_rfl) (fun _ _ _ h => h) (Or.inl ⟨by rfl, ?_⟩) ?_ ?_
        rotate_left
        · intro w'
          go_simp
          with_reducible rfl
        rotate_left
        · simp only [Act.put, List.setIfInBounds_toArray, List.set_cons_zero, List.set_cons_succ, i64_w, i32_w]
          rfl
        refine done_ (by kernel_rfl) ?_
        obtain ⟨fn, caps, hf, hen, hcl⟩ := HDO.out
        subst hf
        have HCL := Aside0.mk hcl
        have hen' : ∀ w, (callFunc fn caps).run Try.prog w = .ok (.enter fn caps) w := hen
        have z15 : w2.cell? ⟨g, 15, none⟩ = some (.int .i64 m.picks) := (blk_cell HI3.out.blk 15).trans rfl
        have f15 := HI3.out.free 15
        have pk := HPK.out
        clear hcl hen hHeld
        have HI4 := Aside0.mk (HI3.out.set 15 (.int .i64 (m.picks + 1)) { m with picks := m.picks + 1 } rfl rfl rfl rfl rfl rfl)
        have HK15 := Aside0.mk (fun k (hk : k ≠ g) => Below.heap_setCell w2 ⟨g, 15, none⟩ (.int .i64 (m.picks + 1)) k hk)
        have HNE := Aside0.mk (show ¬ w.heap.size + 1 = g from fun e => HF.out g (.inl rfl) e.symm)
        have HSB := Aside0.mk (HB4.out.trans ((HB2.out.trans (HB3.out.mono HB2.out.size)).mono HB4.out.size))
        go_wp2_with (first | ((with_reducible refine (HCL.out _ (m.picks + 1) HI4.out HK15.out).mono ?_); rintro e w4 ⟨rfl, hM⟩; have HM := Aside0.mk hM; have be5 := Aside0.mk ((hM.kept.2 (w.heap.size + 1) (by rw [size_set]; exact blk_lt be3.out) (fun hf => HF.out _ hf rfl)).trans (blk_far be3.out (p := ⟨g, 15, none⟩) HNE.out (.int .i64 (m.picks + 1)))); clear hM; have u0 : w4.cell? ⟨w.heap.size + 1, 0, none⟩ = some (.int .i64 0) := (blk_cell be5.out 0).trans rfl; have u1 : w4.cell? ⟨w.heap.size + 1, 1, none⟩ = some (.int .i64 0) := (blk_cell be5.out 1).trans rfl; have u2 : w4.cell? ⟨w.heap.size + 1, 2, none⟩ = some (.int .i64 0) := (blk_cell be5.out 2).trans rfl; have u3 : w4.cell? ⟨w.heap.size + 1, 3, none⟩ = some (.int .i64 0) := (blk_cell be5.out 3).trans rfl; have v0 := blk_frozen be5.out 0; have v1 := blk_frozen be5.out 1; have v2 := blk_frozen be5.out 2; have v3 := blk_frozen be5.out 3; unfold Evt.v ev))
        have M1 : Moved w g s { m with picks := m.picks + 1 } (w2.setCell ⟨g, 15, none⟩ (.int .i64 (m.picks + 1))) := .of HI4.out rfl (fun _ h => .inl h) (kept_own (Kept.of_below HSB.out _) 15 _) HSB.out.os HSB.out.tape HSB.out.output
        obtain ⟨M3, H3⟩ := (Moved.comp M1 HM.out rfl (fun _ h => .inl h)).ev be5.out rfl (Nat.le_succ _) (.int .i64 (act m x0 stop).1.k) (.int .i64 (act m x0 stop).1.p) (.int .i64 (act m x0 stop).1.j) (.int .i64 (act m x0 stop).1.s)
        exact bodyPost_ret (v := .tuple #[(act m x0 stop).1.v, .int .i64 0]) (results_list (rs := [.cell 4 42, .tmp 5]) rfl (by simp) (.cell (w.heap.size + 1) 42 _ (0, 0) _ rfl H3 Try.underlying42 rfl (by kernel_rfl) (.tmp .nil))) rfl ⟨rfl, M3⟩
      · have hne : k ≠ i := by
          rintro rfl
          rw [hit] at hyk
          injection hyk with hyk
          injection hyk with h1 h2
          exact heq ⟨h1, h2⟩
        have HIT := Aside0.mk (show ∃ i, k + 1 ≤ i ∧ i < n ∧ (mvs m)[i]? = some ⟨x0, x1⟩ from ⟨i, by omega, hin, hit⟩)
        clear hyk hit hik hin hne hstop
        by_cases h0 : x0 = y0
        · have b1 : (x1 == y1) = false := beq_eq_false_iff_ne.mpr (fun h => heq ⟨h0, h⟩)
          have b0 : (x0 == y0) = true := by simp [h0]
          clear heq h0
          go_wp2
          go_roundw
          case rel => exact ⟨k + 1, by go_num, by omega, HIT.out, below_alloc HB.out _⟩
          case measure => simp [intOf]; omega
        · have b0 : (x0 == y0) = false := beq_eq_false_iff_ne.mpr h0
          clear heq h0
          go_wp2
          go_roundw
          case rel => exact ⟨k + 1, by go_num, by omega, HIT.out, below_alloc HB.out _⟩
          case measure => simp [intOf]; omega
    · exact absurd (show k < n by omega) hlt
end Go.Proofs.Ythcchpbidbbiaaa.Sc
namespace Go.Proofs.Ythcchpbidbbiaaa.Sc
open Go.RowKit Go.Proofs.YthcchpbidbbiaaaW.PrintWords Go.Proofs.YthcchpbidbbiaaaW.PrintLast Go.Proofs.YthcchpbidbbiaaaW.PrintMore Go.Proofs.Ythcchpbidbbiaaa.PSchedSide
set_option linter.unusedVariables false
set_option linter.unusedSimpArgs false
/-- The place that the number k speaks of among n. -/
def pk (k : Int) (n : Nat) : Int := if k.tmod n < 0 then k.tmod n + n else k.tmod n
theorem tmod_bounds (k : Int) (n : Nat) (h : 0 < n) : -(n : Int) < k.tmod n ∧ k.tmod n < n := by
  have h1 := Int.tmod_lt_of_pos k (show (0 : Int) < n by omega)
  have h2 : -(n : Int) < k.tmod n := by
    have h3 := Int.tmod_lt_of_pos (-k) (show (0 : Int) < n by omega)
    rw [Int.neg_tmod] at h3
    omega
  exact ⟨h2, h1⟩
theorem pk_bounds (k : Int) (n : Nat) (h : 0 < n) : 0 ≤ pk k n ∧ pk k n < n := by
  have := tmod_bounds k n h
  unfold pk
  split <;> omega
/-- The move that is picked. -/
def picked (m : Mach) (k : Int) : S64 := rd_T64 (mvs m) (pk k (mvs m).length)
theorem rd_T64_mem {xs : List S64} {i : Int} (h0 : 0 ≤ i) (h1 : i < xs.length) : rd_T64 xs i ∈ xs := by
  have h5 : i.toNat < xs.length := by omega
  unfold rd_T64
  rw [List.getD_eq_getElem?_getD, List.getElem?_eq_getElem h5]
  exact List.getElem_mem h5
theorem picked_mem {m : Mach} (k : Int) (h : mvs m ≠ []) : picked m k ∈ mvs m := by
  have hl : 0 < (mvs m).length := List.length_pos_iff.mpr h
  have hb := pk_bounds k _ hl
  exact rd_T64_mem hb.1 hb.2
theorem mvs_stop {m : Mach} {x : S64} (h : x ∈ mvs m) : x.f1 = if (x.f1 == 1) then 1 else 0 := by
  have := (mem_mvs.1 h).2.2
  rcases this with ⟨h, _⟩ | ⟨h, _⟩ <;> rw [h] <;> rfl
theorem mvs_length_le {m : Mach} (hO : Ok m) : (mvs m).length ≤ 20 := by
  have h1 := mvTo_length m (m.workers.length + 2)
  have h2 := hO.nw
  have h3 := hO.pw
  unfold mvs
  omega
/-- The machine behind a move. -/
def step (m : Mach) (x : S64) : Mach := { (act m x.f0 (x.f1 == 1)).2 with picks := m.picks + 1 }
def evOf (m : Mach) (x : S64) : Evt := (act m x.f0 (x.f1 == 1)).1
set_option maxHeartbeats 8000000 in
set_option maxRecDepth 1000000 in
theorem pick_none (w : World) (g : Nat) (s : Sh) (m : Mach) (k : Int) (hI : IsM w g s m) (hO : Ok m) (hx : mvs m = []) :
    Calls Try.prog 19 #[ptr g, .int .i64 k] w fun e w' => e = .returned (.tuple #[ev 0 0 0 0, .int .i64 180]) ∧ Below w.heap.size w w' := by
  have HI := Aside0.mk (hI.alloc (.cells #[.int .i64 0, .int .i64 0, .int .i64 0, .int .i64 0] 42))
  have HO := Aside0.mk hO
  have HB := Aside0.mk (below_alloc (Below.refl w.heap.size w) (.cells #[.int .i64 0, .int .i64 0, .int .i64 0, .int .i64 0] 42))
  have HE := Aside0.mk (heap_alloc_new w (.cells #[.int .i64 0, .int .i64 0, .int .i64 0, .int .i64 0] 42))
  have hn : (mvs m).length = 0 := by rw [hx]; rfl
  have HN := Aside0.mk hn
  clear hI hO hx hn
  go_enter Try.func19, Try.ntmps19
  go_wp2_with (first | (go_at_call 34; (with_reducible refine (ready_calls _ g _ m HI.out HO.out).mono ?_); rintro e W1 ⟨A, c, rfl, ho, hb⟩; rw [HN.out]; have HB1 := Aside0.mk hb; have be := Aside0.mk ((hb.block _ (blk_lt HE.out)).trans HE.out); have u0 : W1.cell? ⟨w.heap.size, 0, none⟩ = some (.int .i64 0) := (blk_cell be.out 0).trans rfl; have u1 : W1.cell? ⟨w.heap.size, 1, none⟩ = some (.int .i64 0) := (blk_cell be.out 1).trans rfl; have u2 : W1.cell? ⟨w.heap.size, 2, none⟩ = some (.int .i64 0) := (blk_cell be.out 2).trans rfl; have u3 : W1.cell? ⟨w.heap.size, 3, none⟩ = some (.int .i64 0) := (blk_cell be.out 3).trans rfl; have v0 := blk_frozen be.out 0; have v1 := blk_frozen be.out 1; have v2 := blk_frozen be.out 2; have v3 := blk_frozen be.out 3; clear ho hb))
  have h4 := four_at be.out rfl (.int .i64 0) (.int .i64 0) (.int .i64 0) (.int .i64 0)
  exact bodyPost_ret (v := .tuple #[ev 0 0 0 0, .int .i64 180]) (results_list (rs := [.cell 4 42, .tmp 5]) rfl (by simp) (.cell w.heap.size 42 _ (0, 0) _ rfl h4 Try.underlying42 rfl (by kernel_rfl) (.tmp .nil))) rfl ⟨rfl, below_four (HB.out.trans (HB1.out.mono HB.out.size)) (Nat.le_refl _) _ _ _ _⟩
set_option maxHeartbeats 8000000 in
set_option maxRecDepth 1000000 in
theorem pick_some (w : World) (g : Nat) (s : Sh) (m : Mach) (k : Int) (hI : IsM w g s m) (hO : Ok m) (hpk : 0 ≤ m.picks ∧ m.picks ≤ 4000000) (hx : mvs m ≠ []) :
    Calls Try.prog 19 #[ptr g, .int .i64 k] w fun e w' => e = .returned (.tuple #[(evOf m (picked m k)).v, .int .i64 0]) ∧ Moved w g s (step m (picked m k)) w' := by
  have HI0 := Aside0.mk hI
  have HI := Aside0.mk (hI.alloc (.cells #[.int .i64 0, .int .i64 0, .int .i64 0, .int .i64 0] 42))
  have HO := Aside0.mk hO
  have HB := Aside0.mk (below_alloc (Below.refl w.heap.size w) (.cells #[.int .i64 0, .int .i64 0, .int .i64 0, .int .i64 0] 42))
  have HE := Aside0.mk (heap_alloc_new w (.cells #[.int .i64 0, .int .i64 0, .int .i64 0, .int .i64 0] 42))
  have HPM := Aside0.mk (picked_mem k hx)
  have HPK := Aside0.mk hpk
  have HF := Aside0.mk (show ∀ k, Foot g s k → k ≠ w.heap.size from fun k hk e => by have := hI.foot_lt k hk; omega)
  obtain ⟨n, hn⟩ : ∃ n, (mvs m).length = n := ⟨_, rfl⟩
  have hn20 : n ≤ 20 := by rw [← hn]; exact mvs_length_le hO
  have hn0 : 0 < n := by rw [← hn]; exact List.length_pos_iff.mpr hx
  have HN := Aside0.mk hn
  obtain ⟨r, hr⟩ : ∃ r, k.tmod n = r := ⟨_, rfl⟩
  have hb := tmod_bounds k n hn0
  rw [hr] at hb
  obtain ⟨hb0, hb1⟩ := hb
  obtain ⟨j, hj⟩ : ∃ j, pk k n = j := ⟨_, rfl⟩
  have hjb := pk_bounds k n hn0
  rw [hj] at hjb
  obtain ⟨hj0, hj1⟩ := hjb
  have HPJ := Aside0.mk (show picked m k = rd_T64 (mvs m) j from by unfold picked; rw [hn, hj])
  have hjr : j = if r < 0 then r + n else r := by rw [← hj, ← hr]; rfl
  have HMEM := Aside0.mk (rd_T64_mem hj0 (show j < (mvs m).length by rw [hn]; exact hj1))
  have HSTOP := Aside0.mk (mvs_stop HMEM.out)
  have z0 : ((n : Int) == 0) = false := beq_eq_false_iff_ne.mpr (by omega)
  clear hI hO hx hn hpk hj
  by_cases hneg : r < 0
  · have hjr2 : r + n = j := by rw [hjr, if_pos hneg]
    have HJR := Aside0.mk hjr2
    have hw : IntKind.i64.wrap (r + n) = j := by rw [IntWalk.i64_in _ ⟨by omega, by omega⟩]; exact hjr2
    have hd : decide (r < 0) = true := decide_eq_true hneg
    clear hjr
    go_enter Try.func19, Try.ntmps19
    go_wp2_with (first | (go_at_call 34; (with_reducible refine (ready_calls _ g _ m HI.out HO.out).mono ?_); rintro e W1 ⟨A, c, rfl, ho, hb⟩; rw [HN.out]; have HC := Aside0.mk (Kd.R_reads' ho).2.2; rw [HN.out] at HC; obtain ⟨ad, ead, hy0, hy1⟩ := at_T64 HC.out j hj0 hj1; subst ead; have HB1 := Aside0.mk hb; have be := Aside0.mk ((hb.block _ (blk_lt HE.out)).trans HE.out); have HI1 := Aside0.mk (HI.out.below hb); clear ho hb) | (go_at_call 30; (with_reducible refine (take_yes W1 g s m (rd_T64 (mvs m) j) _ HI1.out HO.out HPK.out HMEM.out HSTOP.out).mono ?_); rintro e w4 ⟨rfl, hM⟩; have HM := Aside0.mk hM; have be5 := Aside0.mk ((hM.kept.2 w.heap.size (blk_lt be.out) (fun hf => HF.out _ hf rfl)).trans be.out); clear hM; have u0 : w4.cell? ⟨w.heap.size, 0, none⟩ = some (.int .i64 0) := (blk_cell be5.out 0).trans rfl; have u1 : w4.cell? ⟨w.heap.size, 1, none⟩ = some (.int .i64 0) := (blk_cell be5.out 1).trans rfl; have u2 : w4.cell? ⟨w.heap.size, 2, none⟩ = some (.int .i64 0) := (blk_cell be5.out 2).trans rfl; have u3 : w4.cell? ⟨w.heap.size, 3, none⟩ = some (.int .i64 0) := (blk_cell be5.out 3).trans rfl; have v0 := blk_frozen be5.out 0; have v1 := blk_frozen be5.out 1; have v2 := blk_frozen be5.out 2; have v3 := blk_frozen be5.out 3; unfold Evt.v ev))
    obtain ⟨M3, H3⟩ := (Moved.after (HB.out.trans (HB1.out.mono HB.out.size)) HM.out).ev be5.out rfl (Nat.le_refl _) (.int .i64 (evOf m (rd_T64 (mvs m) j)).k) (.int .i64 (evOf m (rd_T64 (mvs m) j)).p) (.int .i64 (evOf m (rd_T64 (mvs m) j)).j) (.int .i64 (evOf m (rd_T64 (mvs m) j)).s)
    exact bodyPost_ret (v := .tuple #[(evOf m (rd_T64 (mvs m) j)).v, .int .i64 0]) (results_list (rs := [.cell 4 42, .tmp 5]) rfl (by simp) (.cell w.heap.size 42 _ (0, 0) _ rfl H3 Try.underlying42 rfl (by kernel_rfl) (.tmp .nil))) rfl ⟨by rw [HPJ.out], by rw [HPJ.out]; exact M3⟩
  · have HJR := Aside0.mk (show r = j from by rw [hjr, if_neg hneg])
    have hd : decide (r < 0) = false := decide_eq_false hneg
    have hrj : j = r := HJR.out.symm
    clear hjr
    subst hrj
    go_enter Try.func19, Try.ntmps19
    go_wp2_with (first | (go_at_call 34; (with_reducible refine (ready_calls _ g _ m HI.out HO.out).mono ?_); rintro e W1 ⟨A, c, rfl, ho, hb⟩; rw [HN.out]; have HC := Aside0.mk (Kd.R_reads' ho).2.2; rw [HN.out] at HC; obtain ⟨ad, ead, hy0, hy1⟩ := at_T64 HC.out j hj0 hj1; subst ead; have HB1 := Aside0.mk hb; have be := Aside0.mk ((hb.block _ (blk_lt HE.out)).trans HE.out); have HI1 := Aside0.mk (HI.out.below hb); clear ho hb) | (go_at_call 30; (with_reducible refine (take_yes W1 g s m (rd_T64 (mvs m) j) _ HI1.out HO.out HPK.out HMEM.out HSTOP.out).mono ?_); rintro e w4 ⟨rfl, hM⟩; have HM := Aside0.mk hM; have be5 := Aside0.mk ((hM.kept.2 w.heap.size (blk_lt be.out) (fun hf => HF.out _ hf rfl)).trans be.out); clear hM; have u0 : w4.cell? ⟨w.heap.size, 0, none⟩ = some (.int .i64 0) := (blk_cell be5.out 0).trans rfl; have u1 : w4.cell? ⟨w.heap.size, 1, none⟩ = some (.int .i64 0) := (blk_cell be5.out 1).trans rfl; have u2 : w4.cell? ⟨w.heap.size, 2, none⟩ = some (.int .i64 0) := (blk_cell be5.out 2).trans rfl; have u3 : w4.cell? ⟨w.heap.size, 3, none⟩ = some (.int .i64 0) := (blk_cell be5.out 3).trans rfl; have v0 := blk_frozen be5.out 0; have v1 := blk_frozen be5.out 1; have v2 := blk_frozen be5.out 2; have v3 := blk_frozen be5.out 3; unfold Evt.v ev))
    obtain ⟨M3, H3⟩ := (Moved.after (HB.out.trans (HB1.out.mono HB.out.size)) HM.out).ev be5.out rfl (Nat.le_refl _) (.int .i64 (evOf m (rd_T64 (mvs m) j)).k) (.int .i64 (evOf m (rd_T64 (mvs m) j)).p) (.int .i64 (evOf m (rd_T64 (mvs m) j)).j) (.int .i64 (evOf m (rd_T64 (mvs m) j)).s)
    exact bodyPost_ret (v := .tuple #[(evOf m (rd_T64 (mvs m) j)).v, .int .i64 0]) (results_list (rs := [.cell 4 42, .tmp 5]) rfl (by simp) (.cell w.heap.size 42 _ (0, 0) _ rfl H3 Try.underlying42 rfl (by kernel_rfl) (.tmp .nil))) rfl ⟨by rw [HPJ.out], by rw [HPJ.out]; exact M3⟩
end Go.Proofs.Ythcchpbidbbiaaa.Sc
namespace Go.Proofs.Ythcchpbidbbiaaa.Sc
open Go.RowKit Go.Proofs.YthcchpbidbbiaaaW.PrintWords Go.Proofs.YthcchpbidbbiaaaW.PrintLast Go.Proofs.YthcchpbidbbiaaaW.PrintMore Go.Proofs.Ythcchpbidbbiaaa.PSchedSide
set_option linter.unusedVariables false
set_option linter.unusedSimpArgs false
section
variable (w : World) (g : Nat) (s : Sh) (m : Mach)
set_option maxRecDepth 1000000 in
theorem peak_calls (hI : IsM w g s m) : Calls Try.prog 31 #[ptr g] w fun e w' => e = .returned (.int .i64 m.peak) ∧ w' = w := by
  have h := hI.cells.2.2.2.2.2.2.2.2.2.2.2.2.2.2.2.2
  clear hI
  go_enter Try.func31, Try.ntmps31
  go_wp2
  go_ret
  exact ⟨rfl, rfl⟩
set_option maxRecDepth 1000000 in
theorem picks_calls (hI : IsM w g s m) : Calls Try.prog 36 #[ptr g] w fun e w' => e = .returned (.int .i64 m.picks) ∧ w' = w := by
  have h := hI.cells.2.2.2.2.2.2.2.2.2.2.2.2.2.2.2.1
  clear hI
  go_enter Try.func36, Try.ntmps36
  go_wp2
  go_ret
  exact ⟨rfl, rfl⟩
set_option maxRecDepth 1000000 in
theorem outcome_calls (hI : IsM w g s m) : Calls Try.prog 27 #[ptr g] w fun e w' => e = .returned (.int .i64 m.outcome) ∧ w' = w := by
  have h := hI.cells.2.2.2.2.2.2.2.2.2.2.2.2.2.2.1
  clear hI
  go_enter Try.func27, Try.ntmps27
  go_wp2
  go_ret
  exact ⟨rfl, rfl⟩
set_option maxHeartbeats 4000000 in
set_option maxRecDepth 1000000 in
theorem got_calls (hI : IsM w g s m) (hO : Ok m) : Calls Try.prog 26 #[ptr g] w fun e w' => ∃ v, e = .returned v ∧ Kd.R (Kd.int .i64) 3 w' w.heap.size (fun _ => True) v m.got ∧ Below w.heap.size w w' := by
  obtain ⟨AJ, cJ, AW, cW, AS, cS, AG, cG, AO, cO, rfl⟩ := hI.slices
  have HC := Aside0.mk (Kd.R_reads' hI.got).2.2
  have HL := Aside0.mk (show m.got.length * 8 ≤ 140737488355328 from by have := hO.jd; have := hO.ct; have := hO.nx; have := hO.nj; omega)
  have h := hI.cells.2.2.2.2.2.2.2.2.2.2.2.2.1
  clear hI hO
  go_enter Try.func26, Try.ntmps26
  go_wp2_with (first | (go_at_call 52; (with_reducible refine (copied_calls _ _ _ _ HC.out HL.out).mono ?_); rintro e w1 ⟨v1, rfl, ho, hb⟩; have HO := Aside0.mk ho; have HB := Aside0.mk hb; clear ho hb))
  go_ret
  exact ⟨_, rfl, HO.out, HB.out⟩
/-- Where a process stands. -/
def placeOf (m : Mach) (p : Int) : S59 :=
  if p < 0 ∨ p > m.workers.length + 1 then ⟨0, 0, 0⟩ else if p = 0 then (if m.disp then ⟨1, 0, 0⟩ else ⟨0, 0, 0⟩) else if p = m.workers.length + 1 then (if m.coll then ⟨1, 0, 0⟩ else ⟨0, 0, 0⟩) else wk m p
def placeErr (m : Mach) (p : Int) : Int := if p < 0 ∨ p > m.workers.length + 1 then 3 else 0
def pl (x : S59) : Value := .agg #[.int .i64 x.f0, .int .i64 x.f1, .int .i64 x.f2]
theorem three_at {W : World} {e : Nat} {cs : Array Value} {t : Nat} (he : W.heap[e]? = some (.cells cs t (0, 0))) (hs : cs.size = 3) (a b c : Value) : (((W.setCell ⟨e, 0, none⟩ a).setCell ⟨e, 1, none⟩ b).setCell ⟨e, 2, none⟩ c).heap[e]? = some (.cells #[a, b, c] t (0, 0)) := by
  have h3 := blk_set (blk_set (blk_set he 0 a) 1 b) 2 c
  rw [h3]
  obtain ⟨x0, x1, x2, rfl⟩ : ∃ x0 x1 x2, cs = #[x0, x1, x2] := by
    obtain ⟨l⟩ := cs
    match l, hs with
    | [x0, x1, x2], _ => exact ⟨x0, x1, x2, rfl⟩
  rfl
set_option maxHeartbeats 8000000 in
set_option maxRecDepth 1000000 in
theorem place_calls (p : Int) (hp : -9223372036854775808 ≤ p ∧ p ≤ 9223372036854775807) (hI : IsM w g s m) (hO : Ok m) : Calls Try.prog 29 #[ptr g, .int .i64 p] w fun e w' => e = .returned (.tuple #[pl (placeOf m p), .int .i64 (placeErr m p)]) ∧ Below w.heap.size w w' := by
  obtain ⟨AJ, cJ, AW, cW, AS, cS, AG, cG, AO, cO, rfl⟩ := hI.slices
  have HI := Aside0.mk (hI.alloc (.cells #[.int .i64 0, .int .i64 0, .int .i64 0] 59))
  have HB := Aside0.mk (below_alloc (Below.refl w.heap.size w) (.cells #[.int .i64 0, .int .i64 0, .int .i64 0] 59))
  have hE := heap_alloc_new w (.cells #[.int .i64 0, .int .i64 0, .int .i64 0] 59)
  have HE := Aside0.mk hE
  have b8 : (m.workers.length : Int) ≤ 8 := by have := hO.nw; have := hO.pw; omega
  obtain ⟨n, hn⟩ : ∃ n, m.workers.length = n := ⟨_, rfl⟩
  obtain ⟨x0, x1, x2, x3, x4, x5, x6, x7, x8, x9, x10, x11, x12, x13, x14, x15, x16⟩ := HI.out.cells
  clear x0 x1 x2 x3 x4 x5 x9 x10 x11 x12 x13 x14 x15 x16
  have HO := Aside0.mk hO
  have HN := Aside0.mk hn
  rw [hn] at b8
  simp only [hn] at x8
  clear hI hO hn hE
  by_cases h1 : p < 0
  · have HP := Aside0.mk (show placeOf m p = ⟨0, 0, 0⟩ ∧ placeErr m p = 3 from by simp [placeOf, placeErr, h1])
    go_enter Try.func29, Try.ntmps29
    go_wp2
    exact bodyPost_ret (v := .tuple #[pl (placeOf m p), .int .i64 (placeErr m p)]) (by rw [HP.out.1, HP.out.2]; exact results_list (rs := [.cell 4 59, .tmp 5]) rfl (by simp) (.cell w.heap.size 59 _ (0, 0) _ rfl (heap_alloc_new w _) Try.underlying59 rfl (by kernel_rfl) (.tmp .nil))) rfl ⟨rfl, below_alloc (Below.refl _ _) _⟩
  · by_cases h2 : (n : Int) + 1 < p
    · have HP := Aside0.mk (show placeOf m p = ⟨0, 0, 0⟩ ∧ placeErr m p = 3 from by have := HN.out; have h : p < 0 ∨ p > m.workers.length + 1 := .inr (by omega); simp only [placeOf, placeErr, if_pos h]; simp)
      go_enter Try.func29, Try.ntmps29
      go_wp2
      exact bodyPost_ret (v := .tuple #[pl (placeOf m p), .int .i64 (placeErr m p)]) (by rw [HP.out.1, HP.out.2]; exact results_list (rs := [.cell 4 59, .tmp 5]) rfl (by simp) (.cell w.heap.size 59 _ (0, 0) _ rfl (heap_alloc_new w _) Try.underlying59 rfl (by kernel_rfl) (.tmp .nil))) rfl ⟨rfl, below_alloc (Below.refl _ _) _⟩
    · have hnot : ¬ (p < 0 ∨ p > m.workers.length + 1) := by have := HN.out; omega
      have HNO := Aside0.mk hnot
      clear hnot
      by_cases h3 : p = n + 1
      · have b3 : (p == (n : Int) + 1) = true := by simp [h3]
        have hp0 : p ≠ 0 := by omega
        cases hc : m.coll with
        | true =>
          have HP := Aside0.mk (show placeOf m p = ⟨1, 0, 0⟩ ∧ placeErr m p = 0 from by have := HN.out; simp only [placeOf, placeErr, if_neg HNO.out, if_neg hp0, if_pos (show p = m.workers.length + 1 by omega), hc]; simp)
          rw [hc] at x7
          clear h3 hp0 hc
          go_enter Try.func29, Try.ntmps29
          go_wp2
          exact bodyPost_ret (v := .tuple #[pl (placeOf m p), .int .i64 (placeErr m p)]) (by rw [HP.out.1, HP.out.2]; exact results_list (rs := [.cell 4 59, .tmp 5]) rfl (by simp) (.cell w.heap.size 59 _ (0, 0) _ rfl (heap_alloc_new w _) Try.underlying59 rfl (by kernel_rfl) (.tmp .nil))) rfl ⟨rfl, below_alloc (Below.refl _ _) _⟩
        | false =>
          have HP := Aside0.mk (show placeOf m p = ⟨0, 0, 0⟩ ∧ placeErr m p = 0 from by have := HN.out; simp only [placeOf, placeErr, if_neg HNO.out, if_neg hp0, if_pos (show p = m.workers.length + 1 by omega), hc]; simp)
          rw [hc] at x7
          clear h3 hp0 hc
          go_enter Try.func29, Try.ntmps29
          go_wp2
          exact bodyPost_ret (v := .tuple #[pl (placeOf m p), .int .i64 (placeErr m p)]) (by rw [HP.out.1, HP.out.2]; exact results_list (rs := [.cell 4 59, .tmp 5]) rfl (by simp) (.cell w.heap.size 59 _ (0, 0) _ rfl (heap_alloc_new w _) Try.underlying59 rfl (by kernel_rfl) (.tmp .nil))) rfl ⟨rfl, below_alloc (Below.refl _ _) _⟩
      · have b3 : (p == (n : Int) + 1) = false := beq_eq_false_iff_ne.mpr h3
        by_cases h4 : p = 0
        · subst h4
          cases hc : m.disp with
          | true =>
            have HP := Aside0.mk (show placeOf m 0 = ⟨1, 0, 0⟩ ∧ placeErr m 0 = 0 from by simp only [placeOf, placeErr, if_neg HNO.out, hc]; simp)
            rw [hc] at x6
            clear h3 hc
            go_enter Try.func29, Try.ntmps29
            go_wp2
            exact bodyPost_ret (v := .tuple #[pl (placeOf m 0), .int .i64 (placeErr m 0)]) (by rw [HP.out.1, HP.out.2]; exact results_list (rs := [.cell 4 59, .tmp 5]) rfl (by simp) (.cell w.heap.size 59 _ (0, 0) _ rfl (heap_alloc_new w _) Try.underlying59 rfl (by kernel_rfl) (.tmp .nil))) rfl ⟨rfl, below_alloc (Below.refl _ _) _⟩
          | false =>
            have HP := Aside0.mk (show placeOf m 0 = ⟨0, 0, 0⟩ ∧ placeErr m 0 = 0 from by simp only [placeOf, placeErr, if_neg HNO.out, hc]; simp)
            rw [hc] at x6
            clear h3 hc
            go_enter Try.func29, Try.ntmps29
            go_wp2
            exact bodyPost_ret (v := .tuple #[pl (placeOf m 0), .int .i64 (placeErr m 0)]) (by rw [HP.out.1, HP.out.2]; exact results_list (rs := [.cell 4 59, .tmp 5]) rfl (by simp) (.cell w.heap.size 59 _ (0, 0) _ rfl (heap_alloc_new w _) Try.underlying59 rfl (by kernel_rfl) (.tmp .nil))) rfl ⟨rfl, below_alloc (Below.refl _ _) _⟩
        · have HP := Aside0.mk (show placeOf m p = wk m p ∧ placeErr m p = 0 from by have := HN.out; simp only [placeOf, placeErr, if_neg HNO.out, if_neg h4, if_neg (show ¬ p = m.workers.length + 1 by omega)]; simp)
          obtain ⟨j, hj⟩ : ∃ j, p - 1 = j := ⟨_, rfl⟩
          have hj0 : 0 ≤ j := by omega
          have hj1 : j < (n : Int) := by omega
          have HC := Aside0.mk (Kd.R_reads' HI.out.works).2.2
          obtain ⟨ad, ead, hy0, hy1, hy2⟩ := at_T99 HC.out j hj0 (by have := HN.out; omega)
          subst ead
          have HW := Aside0.mk (show wk m p = (rd_T99 m.workers j).f0 from by unfold wk; rw [hj])
          have hjw : IntKind.i64.wrap (p - 1) = j := by rw [IntWalk.i64_in _ ⟨by omega, by omega⟩]; exact hj
          have a0 := eq_true hj0
          have a1 := eq_true hj1
          have a2 : decide (0 < p) = true := decide_eq_true (by omega)
          clear hj h4 h3
          go_enter Try.func29, Try.ntmps29
          go_wp2
          exact bodyPost_ret (v := .tuple #[pl (placeOf m p), .int .i64 (placeErr m p)]) (by rw [HP.out.1, HP.out.2, HW.out]; exact results_list (rs := [.cell 4 59, .tmp 5]) rfl (by simp) (.cell w.heap.size 59 _ (0, 0) _ rfl (heap_alloc_new w _) Try.underlying59 rfl (by kernel_rfl) (.tmp .nil))) rfl ⟨rfl, below_alloc (Below.refl _ _) _⟩
end
end Go.Proofs.Ythcchpbidbbiaaa.Sc
