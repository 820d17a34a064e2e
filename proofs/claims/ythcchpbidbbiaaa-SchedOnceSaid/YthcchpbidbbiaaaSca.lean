/- The machine in memory; what each process would do. -/
import Derived.Test.YthcchpbidbbiaaaOSchedSidex5
import Derived.WalkSpells
import Derived.Outline
namespace Go.Proofs.Ythcchpbidbbiaaa.Sc
open Go.RowKit Go.Proofs.YthcchpbidbbiaaaW.PrintWords Go.Proofs.YthcchpbidbbiaaaW.PrintLast Go.Proofs.YthcchpbidbbiaaaW.PrintMore Go.Proofs.Ythcchpbidbbiaaa.PSchedSide
set_option linter.unusedVariables false
/-- A machine's state. -/
structure Mach where
  pw : Int
  pj : Int
  pr : Int
  jobs : List Int
  next : Int
  dropped : Bool
  disp : Bool
  coll : Bool
  workers : List S99
  sent : List Int
  given : List Int
  judged : Int
  got : List Int
  stopped : Bool
  outcome : Int
  picks : Int
  peak : Int
/-- The values of its five slices. -/
structure Sh where
  J : Value
  W : Value
  S : Value
  G : Value
  O : Value
def cellsM (s : Sh) (m : Mach) : Array Value := #[.int .i64 m.pw, .int .i64 m.pj, .int .i64 m.pr, s.J, .int .i64 m.next, .bool m.dropped, .bool m.disp, .bool m.coll, s.W, s.S, s.G, .int .i64 m.judged, s.O, .bool m.stopped, .int .i64 m.outcome, .int .i64 m.picks, .int .i64 m.peak]
/-- A row of its own block. -/
def Own {α : Type} (d : Kd α) (e : Nat) (w : World) (v : Value) (xs : List α) : Prop := d.R e w 0 (fun k => some k = v.ownBlock) v xs
/-- Two slices share no block. -/
def Ap (a b : Value) : Prop := ∀ k, some k = a.ownBlock → some k ≠ b.ownBlock
theorem Ap.symm {a b : Value} (h : Ap a b) : Ap b a := fun k hb ha => h k ha hb
theorem Own.of {α : Type} {d : Kd α} {e base : Nat} {w : World} {ok : Nat → Prop} {v : Value} {xs : List α} (hE : d.E = []) (h : d.R e w base ok v xs) : Own d e w v xs := Kd.R_tight hE (Kd.R_lower h (Nat.zero_le _))
theorem Own.at_ {α : Type} {d : Kd α} {e : Nat} {w w1 : World} {v : Value} {xs : List α} (h : Own d e w v xs) (hm : ∀ k, some k = v.ownBlock → k < w.heap.size → w1.heap[k]? = w.heap[k]?) : Own d e w1 v xs := Kd.R_step h hm
theorem Own.lt {α : Type} {d : Kd α} {e : Nat} {w : World} {v : Value} {xs : List α} (h : Own d e w v xs) : ∀ k, some k = v.ownBlock → k < w.heap.size := fun k hk => Kd.R_lt h k hk.symm
theorem Own.below {α : Type} {d : Kd α} {e : Nat} {w w1 : World} {v : Value} {xs : List α} (h : Own d e w v xs) (hb : Below w.heap.size w w1) : Own d e w1 v xs := Kd.R_below h hb
theorem k99_E : k99.E = [] := rfl
theorem int_E : (Kd.int .i64).E = [] := rfl
/-- What of it may be written. -/
def Foot (g : Nat) (s : Sh) (k : Nat) : Prop := k = g ∨ some k = s.W.ownBlock ∨ some k = s.S.ownBlock ∨ some k = s.G.ownBlock ∨ some k = s.O.ownBlock
structure IsM (w : World) (g : Nat) (s : Sh) (m : Mach) : Prop where
  blk : w.heap[g]? = some (.cells (cellsM s m) 97 (0, 0))
  jobs : Own (Kd.int .i64) 3 w s.J m.jobs
  works : Own k99 99 w s.W m.workers
  sent : Own (Kd.int .i64) 3 w s.S m.sent
  given : Own (Kd.int .i64) 3 w s.G m.given
  got : Own (Kd.int .i64) 3 w s.O m.got
  js : Ap s.J s.S
  jg : Ap s.J s.G
  jo : Ap s.J s.O
  sg : Ap s.S s.G
  so : Ap s.S s.O
  go : Ap s.G s.O
section
variable {w w1 : World} {g : Nat} {s : Sh} {m : Mach}
theorem IsM.lt (h : IsM w g s m) : g < w.heap.size := blk_lt h.blk
theorem IsM.foot_lt (h : IsM w g s m) : ∀ k, Foot g s k → k < w.heap.size := by
  rintro k (rfl | hk | hk | hk | hk)
  · exact h.lt
  · exact h.works.lt k hk
  · exact h.sent.lt k hk
  · exact h.given.lt k hk
  · exact h.got.lt k hk
theorem ne_typed {α : Type} {d : Kd α} {e : Nat} {v : Value} {xs : List α} {cs : Array Value} {t : Nat} (h : Own d e w v xs) (hb : w.heap[g]? = some (.cells cs t (0, 0))) (ht : e ≠ t) : ∀ k, some k = v.ownBlock → k ≠ g := by
  rintro k hk rfl
  exact Kd.R_ne h hb ht hk
/-- What it holds stays where its blocks do. -/
theorem IsM.step (h : IsM w g s m) (hm : ∀ k, k < w.heap.size → (Foot g s k ∨ some k = s.J.ownBlock) → w1.heap[k]? = w.heap[k]?) : IsM w1 g s m where
  blk := (hm g h.lt (.inl (.inl rfl))).trans h.blk
  jobs := h.jobs.at_ (fun k hk hl => hm k hl (.inr hk))
  works := h.works.at_ (fun k hk hl => hm k hl (.inl (.inr (.inl hk))))
  sent := h.sent.at_ (fun k hk hl => hm k hl (.inl (.inr (.inr (.inl hk)))))
  given := h.given.at_ (fun k hk hl => hm k hl (.inl (.inr (.inr (.inr (.inl hk))))))
  got := h.got.at_ (fun k hk hl => hm k hl (.inl (.inr (.inr (.inr (.inr hk))))))
  js := h.js
  jg := h.jg
  jo := h.jo
  sg := h.sg
  so := h.so
  go := h.go
theorem IsM.below (h : IsM w g s m) (hb : Below w.heap.size w w1) : IsM w1 g s m := h.step (fun k hk _ => hb.block k hk)
theorem IsM.kept {S : Nat → Prop} (h : IsM w g s m) (hk : Kept w w1 S) (hd : ∀ k, Foot g s k ∨ some k = s.J.ownBlock → ¬ S k) : IsM w1 g s m := h.step (fun k hl hf => hk.2 k hl (hd k hf))
theorem IsM.drewN (h : IsM w g s m) (n : Nat) : IsM (w.drewN n) g s m := h.below (pw_below_drewN (Below.refl _ _) n)
theorem IsM.drew (h : IsM w g s m) : IsM w.drew g s m := h.below (below_drew (Below.refl _ _))
theorem IsM.alloc (h : IsM w g s m) (o : Obj) : IsM (w.alloc o) g s m := h.below (below_alloc (Below.refl _ _) o)
/-- A store into a block that is none of its own. -/
theorem IsM.far (h : IsM w g s m) {p : Addr} (hp : ∀ k, Foot g s k ∨ some k = s.J.ownBlock → k ≠ p.block) (u : Value) : IsM (w.setCell p u) g s m := h.step (fun k _ hf => Below.heap_setCell w p u k (hp k hf))
/-- A store into a number or a bool of its block. -/
theorem IsM.set (h : IsM w g s m) (j : Nat) (u : Value) (m' : Mach) (hc : (cellsM s m).setIfInBounds j u = cellsM s m') (hJ : m'.jobs = m.jobs) (hW : m'.workers = m.workers) (hS : m'.sent = m.sent) (hG : m'.given = m.given) (hO : m'.got = m.got) : IsM (w.setCell ⟨g, j, none⟩ u) g s m' where
  blk := by rw [← hc]; exact blk_set h.blk j u
  jobs := by rw [hJ]; exact h.jobs.at_ (fun k hk _ => Below.heap_setCell w _ u k (ne_typed h.jobs h.blk (by decide) k hk))
  works := by rw [hW]; exact h.works.at_ (fun k hk _ => Below.heap_setCell w _ u k (ne_typed h.works h.blk (by decide) k hk))
  sent := by rw [hS]; exact h.sent.at_ (fun k hk _ => Below.heap_setCell w _ u k (ne_typed h.sent h.blk (by decide) k hk))
  given := by rw [hG]; exact h.given.at_ (fun k hk _ => Below.heap_setCell w _ u k (ne_typed h.given h.blk (by decide) k hk))
  got := by rw [hO]; exact h.got.at_ (fun k hk _ => Below.heap_setCell w _ u k (ne_typed h.got h.blk (by decide) k hk))
  js := h.js
  jg := h.jg
  jo := h.jo
  sg := h.sg
  so := h.so
  go := h.go
/-- Sent is another row now (its old one may be written over), and is stored. -/
theorem IsM.putS (h : IsM w g s m) {W1 : World} {v : Value} {xs : List Int} (hg : ∀ k, k < w.heap.size → some k ≠ s.S.ownBlock → W1.heap[k]? = w.heap[k]?) (ho : Own (Kd.int .i64) 3 W1 v xs) (hv : ∀ k, some k = v.ownBlock → some k = s.S.ownBlock ∨ w.heap.size ≤ k) :
    IsM (W1.setCell ⟨g, 9, none⟩ v) g { s with S := v } { m with sent := xs } := by
  have hblk : W1.heap[g]? = some (.cells (cellsM s m) 97 (0, 0)) := (hg g h.lt (fun e => ne_typed h.sent h.blk (by decide) g e rfl)).trans h.blk
  have st : ∀ {α : Type} {d : Kd α} {e : Nat} {u : Value} {ys : List α}, Own d e w u ys → e ≠ 97 → Ap u s.S → Own d e (W1.setCell ⟨g, 9, none⟩ v) u ys := by
    intro α d e u ys hu he hap
    refine hu.at_ (fun k hk hl => ?_)
    exact (Below.heap_setCell W1 _ v k (ne_typed hu h.blk he k hk)).trans (hg k hl (hap k hk))
  have ap : ∀ {α : Type} {d : Kd α} {e : Nat} {u : Value} {ys : List α}, Own d e w u ys → Ap u s.S → Ap u v := by
    intro α d e u ys hu hap k hk hkv
    rcases hv k hkv with h1 | h1
    · exact hap k hk h1
    · have := hu.lt k hk; omega
  have wt : Ap s.W s.S := fun k hk hs => by
    obtain ⟨c1, e1⟩ := Kd.R_typed h.works k hk.symm
    obtain ⟨c2, e2⟩ := Kd.R_typed h.sent k hs.symm
    rw [e1] at e2; injection e2 with e2; injection e2 with _ e2; exact absurd e2 (by decide)
  exact { blk := blk_set hblk 9 v, jobs := st h.jobs (by decide) h.js, works := st h.works (by decide) wt,
          sent := ho.at_ (fun k hk _ => Below.heap_setCell W1 _ v k (ne_typed ho hblk (by decide) k hk)), given := st h.given (by decide) h.sg.symm, got := st h.got (by decide) h.so.symm,
          js := ap h.jobs h.js, jg := h.jg, jo := h.jo, sg := (ap h.given h.sg.symm).symm, so := (ap h.got h.so.symm).symm, go := h.go }
/-- Given likewise. -/
theorem IsM.putG (h : IsM w g s m) {W1 : World} {v : Value} {xs : List Int} (hg : ∀ k, k < w.heap.size → some k ≠ s.G.ownBlock → W1.heap[k]? = w.heap[k]?) (ho : Own (Kd.int .i64) 3 W1 v xs) (hv : ∀ k, some k = v.ownBlock → some k = s.G.ownBlock ∨ w.heap.size ≤ k) :
    IsM (W1.setCell ⟨g, 10, none⟩ v) g { s with G := v } { m with given := xs } := by
  have hblk : W1.heap[g]? = some (.cells (cellsM s m) 97 (0, 0)) := (hg g h.lt (fun e => ne_typed h.given h.blk (by decide) g e rfl)).trans h.blk
  have st : ∀ {α : Type} {d : Kd α} {e : Nat} {u : Value} {ys : List α}, Own d e w u ys → e ≠ 97 → Ap u s.G → Own d e (W1.setCell ⟨g, 10, none⟩ v) u ys := by
    intro α d e u ys hu he hap
    refine hu.at_ (fun k hk hl => ?_)
    exact (Below.heap_setCell W1 _ v k (ne_typed hu h.blk he k hk)).trans (hg k hl (hap k hk))
  have ap : ∀ {α : Type} {d : Kd α} {e : Nat} {u : Value} {ys : List α}, Own d e w u ys → Ap u s.G → Ap u v := by
    intro α d e u ys hu hap k hk hkv
    rcases hv k hkv with h1 | h1
    · exact hap k hk h1
    · have := hu.lt k hk; omega
  have wt : Ap s.W s.G := fun k hk hs => by
    obtain ⟨c1, e1⟩ := Kd.R_typed h.works k hk.symm
    obtain ⟨c2, e2⟩ := Kd.R_typed h.given k hs.symm
    rw [e1] at e2; injection e2 with e2; injection e2 with _ e2; exact absurd e2 (by decide)
  exact { blk := blk_set hblk 10 v, jobs := st h.jobs (by decide) h.jg, works := st h.works (by decide) wt, sent := st h.sent (by decide) h.sg,
          given := ho.at_ (fun k hk _ => Below.heap_setCell W1 _ v k (ne_typed ho hblk (by decide) k hk)), got := st h.got (by decide) h.go.symm,
          js := h.js, jg := ap h.jobs h.jg, jo := h.jo, sg := ap h.sent h.sg, so := h.so, go := (ap h.got h.go.symm).symm }
/-- Got likewise. -/
theorem IsM.putO (h : IsM w g s m) {W1 : World} {v : Value} {xs : List Int} (hg : ∀ k, k < w.heap.size → some k ≠ s.O.ownBlock → W1.heap[k]? = w.heap[k]?) (ho : Own (Kd.int .i64) 3 W1 v xs) (hv : ∀ k, some k = v.ownBlock → some k = s.O.ownBlock ∨ w.heap.size ≤ k) :
    IsM (W1.setCell ⟨g, 12, none⟩ v) g { s with O := v } { m with got := xs } := by
  have hblk : W1.heap[g]? = some (.cells (cellsM s m) 97 (0, 0)) := (hg g h.lt (fun e => ne_typed h.got h.blk (by decide) g e rfl)).trans h.blk
  have st : ∀ {α : Type} {d : Kd α} {e : Nat} {u : Value} {ys : List α}, Own d e w u ys → e ≠ 97 → Ap u s.O → Own d e (W1.setCell ⟨g, 12, none⟩ v) u ys := by
    intro α d e u ys hu he hap
    refine hu.at_ (fun k hk hl => ?_)
    exact (Below.heap_setCell W1 _ v k (ne_typed hu h.blk he k hk)).trans (hg k hl (hap k hk))
  have ap : ∀ {α : Type} {d : Kd α} {e : Nat} {u : Value} {ys : List α}, Own d e w u ys → Ap u s.O → Ap u v := by
    intro α d e u ys hu hap k hk hkv
    rcases hv k hkv with h1 | h1
    · exact hap k hk h1
    · have := hu.lt k hk; omega
  have wt : Ap s.W s.O := fun k hk hs => by
    obtain ⟨c1, e1⟩ := Kd.R_typed h.works k hk.symm
    obtain ⟨c2, e2⟩ := Kd.R_typed h.got k hs.symm
    rw [e1] at e2; injection e2 with e2; injection e2 with _ e2; exact absurd e2 (by decide)
  exact { blk := blk_set hblk 12 v, jobs := st h.jobs (by decide) h.jo, works := st h.works (by decide) wt, sent := st h.sent (by decide) h.so, given := st h.given (by decide) h.go,
          got := ho.at_ (fun k hk _ => Below.heap_setCell W1 _ v k (ne_typed ho hblk (by decide) k hk)),
          js := h.js, jg := h.jg, jo := ap h.jobs h.jo, sg := h.sg, so := ap h.sent h.so, go := ap h.given h.go }
/-- The workers' row is another now, and is stored. -/
theorem IsM.putW (h : IsM w g s m) {W1 : World} {v : Value} {xs : List S99} (hg : ∀ k, k < w.heap.size → some k ≠ s.W.ownBlock → W1.heap[k]? = w.heap[k]?) (ho : Own k99 99 W1 v xs) :
    IsM (W1.setCell ⟨g, 8, none⟩ v) g { s with W := v } { m with workers := xs } := by
  have hblk : W1.heap[g]? = some (.cells (cellsM s m) 97 (0, 0)) := (hg g h.lt (fun e => ne_typed h.works h.blk (by decide) g e rfl)).trans h.blk
  have st : ∀ {u : Value} {ys : List Int}, Own (Kd.int .i64) 3 w u ys → Own (Kd.int .i64) 3 (W1.setCell ⟨g, 8, none⟩ v) u ys := by
    intro u ys hu
    refine hu.at_ (fun k hk hl => ?_)
    refine (Below.heap_setCell W1 _ v k (ne_typed hu h.blk (by decide) k hk)).trans (hg k hl (fun hs => ?_))
    obtain ⟨c1, e1⟩ := Kd.R_typed hu k hk.symm
    obtain ⟨c2, e2⟩ := Kd.R_typed h.works k hs.symm
    rw [e1] at e2; injection e2 with e2; injection e2 with _ e2; exact absurd e2 (by decide)
  exact { blk := blk_set hblk 8 v, jobs := st h.jobs, works := ho.at_ (fun k hk _ => Below.heap_setCell W1 _ v k (ne_typed ho hblk (by decide) k hk)), sent := st h.sent, given := st h.given, got := st h.got,
          js := h.js, jg := h.jg, jo := h.jo, sg := h.sg, so := h.so, go := h.go }
/-- A worker is another now. -/
theorem IsM.writeW (h : IsM w g s m) {W1 : World} {xs : List S99} (hg : ∀ k, k < w.heap.size → some k ≠ s.W.ownBlock → W1.heap[k]? = w.heap[k]?) (ho : Own k99 99 W1 s.W xs) : IsM W1 g s { m with workers := xs } := by
  have st : ∀ {u : Value} {ys : List Int}, Own (Kd.int .i64) 3 w u ys → Own (Kd.int .i64) 3 W1 u ys := by
    intro u ys hu
    refine hu.at_ (fun k hk hl => hg k hl (fun hs => ?_))
    obtain ⟨c1, e1⟩ := Kd.R_typed hu k hk.symm
    obtain ⟨c2, e2⟩ := Kd.R_typed h.works k hs.symm
    rw [e1] at e2; injection e2 with e2; injection e2 with _ e2; exact absurd e2 (by decide)
  exact { blk := (hg g h.lt (fun e => ne_typed h.works h.blk (by decide) g e rfl)).trans h.blk, jobs := st h.jobs, works := ho, sent := st h.sent, given := st h.given, got := st h.got,
          js := h.js, jg := h.jg, jo := h.jo, sg := h.sg, so := h.so, go := h.go }
end
/-- What never changes in form. -/
structure Ok (m : Mach) : Prop where
  pw : 1 ≤ m.pw ∧ m.pw ≤ 8
  pj : 1 ≤ m.pj ∧ m.pj ≤ 8
  pr : 1 ≤ m.pr ∧ m.pr ≤ 8
  nj : m.jobs.length ≤ 1000
  js : ∀ j ∈ m.jobs, 0 ≤ j ∧ j ≤ 1000
  nx : 0 ≤ m.next ∧ m.next ≤ m.jobs.length
  nw : (m.workers.length : Int) = m.pw
  ws : ∀ x ∈ m.workers, (x.f0.f0 = 2 ∧ 0 ≤ x.f0.f1 ∧ x.f0.f1 < m.jobs.length ∧ 0 ≤ x.f0.f2 ∧ x.f0.f2 ≤ 1000) ∨ ((x.f0.f0 = 0 ∨ x.f0.f0 = 1) ∧ x.f0.f1 = 0 ∧ x.f0.f2 = 0)
  ns : (m.sent.length : Int) ≤ m.pj
  ss : ∀ j ∈ m.sent, 0 ≤ j ∧ j < m.jobs.length
  ng : (m.given.length : Int) ≤ m.pr
  gs : ∀ j ∈ m.given, 0 ≤ j ∧ j < m.jobs.length
  jd : m.judged = m.given.length + m.got.length
  ct : (m.sent.length : Int) + (m.workers.filter (fun x => x.f0.f0 = 2)).length + m.judged ≤ m.next
  pk : 0 ≤ m.peak ∧ m.peak ≤ 8
/-- The jobs that were neither sent nor dropped. -/
def und (m : Mach) : Int := if m.dropped then 0 else m.jobs.length - m.next
section
variable {w w1 : World} {g : Nat} {s : Sh} {m : Mach}
theorem IsM.slices (h : IsM w g s m) : ∃ AJ cJ AW cW AS cS AG cG AO cO, s = ⟨.slice AJ m.jobs.length cJ, .slice AW m.workers.length cW, .slice AS m.sent.length cS, .slice AG m.given.length cG, .slice AO m.got.length cO⟩ := by
  obtain ⟨AJ, cJ, e1⟩ := Kd.R_slice h.jobs
  obtain ⟨AW, cW, e2⟩ := Kd.R_slice h.works
  obtain ⟨AS, cS, e3⟩ := Kd.R_slice h.sent
  obtain ⟨AG, cG, e4⟩ := Kd.R_slice h.given
  obtain ⟨AO, cO, e5⟩ := Kd.R_slice h.got
  obtain ⟨J, W, S, G, O⟩ := s
  exact ⟨AJ, cJ, AW, cW, AS, cS, AG, cG, AO, cO, by simp only [] at e1 e2 e3 e4 e5; rw [e1, e2, e3, e4, e5]⟩
theorem IsM.cell (h : IsM w g s m) (j : Nat) (v : Value) (hv : (cellsM s m)[j]? = some v) : w.cell? ⟨g, j, none⟩ = some v := (blk_cell h.blk j).trans hv
theorem IsM.cells (h : IsM w g s m) : w.cell? ⟨g, 0, none⟩ = some (.int .i64 m.pw) ∧ w.cell? ⟨g, 1, none⟩ = some (.int .i64 m.pj) ∧ w.cell? ⟨g, 2, none⟩ = some (.int .i64 m.pr) ∧ w.cell? ⟨g, 3, none⟩ = some (s.J) ∧ w.cell? ⟨g, 4, none⟩ = some (.int .i64 m.next) ∧ w.cell? ⟨g, 5, none⟩ = some (.bool m.dropped) ∧ w.cell? ⟨g, 6, none⟩ = some (.bool m.disp) ∧ w.cell? ⟨g, 7, none⟩ = some (.bool m.coll) ∧ w.cell? ⟨g, 8, none⟩ = some (s.W) ∧ w.cell? ⟨g, 9, none⟩ = some (s.S) ∧ w.cell? ⟨g, 10, none⟩ = some (s.G) ∧ w.cell? ⟨g, 11, none⟩ = some (.int .i64 m.judged) ∧ w.cell? ⟨g, 12, none⟩ = some (s.O) ∧ w.cell? ⟨g, 13, none⟩ = some (.bool m.stopped) ∧ w.cell? ⟨g, 14, none⟩ = some (.int .i64 m.outcome) ∧ w.cell? ⟨g, 15, none⟩ = some (.int .i64 m.picks) ∧ w.cell? ⟨g, 16, none⟩ = some (.int .i64 m.peak) :=
  ⟨h.cell 0 _ rfl, h.cell 1 _ rfl, h.cell 2 _ rfl, h.cell 3 _ rfl, h.cell 4 _ rfl, h.cell 5 _ rfl, h.cell 6 _ rfl, h.cell 7 _ rfl, h.cell 8 _ rfl, h.cell 9 _ rfl, h.cell 10 _ rfl, h.cell 11 _ rfl, h.cell 12 _ rfl, h.cell 13 _ rfl, h.cell 14 _ rfl, h.cell 15 _ rfl, h.cell 16 _ rfl⟩
theorem IsM.free (h : IsM w g s m) (j : Nat) : w.frozen? ⟨g, j, none⟩ = false := blk_frozen h.blk j
end
end Go.Proofs.Ythcchpbidbbiaaa.Sc
namespace Go.Proofs.Ythcchpbidbbiaaa.Sc
open Go.RowKit Go.Proofs.YthcchpbidbbiaaaW.PrintWords Go.Proofs.YthcchpbidbbiaaaW.PrintLast Go.Proofs.YthcchpbidbbiaaaW.PrintMore Go.Proofs.Ythcchpbidbbiaaa.PSchedSide
set_option linter.unusedVariables false
set_option linter.unusedSimpArgs false
theorem info99 : (Try.prog.info? 99).map (fun i => (i.zero, i.size, i.bytes)) = some (some (.agg #[.int .i64 0, .int .i64 0, .int .i64 0]), 3, 24) := by kernel_rfl
/-- A literal without elements. -/
theorem empty_row {α : Type} (d : Kd α) (W : World) (e : TypeId) : d.R e (W.alloc (.cells #[] e)) W.heap.size (fun _ => True) (.slice (some ⟨W.heap.size, 0, none⟩) 0 0) [] := by
  refine ⟨fun _ _ => trivial, [], ?_, Reps.none _ _⟩
  have h := World.ownsRow_lit (base := W.heap.size) (e := e) (size := d.sz) W #[] 0 (Nat.le_refl _) (by simp [maxLen]) (by simp)
  simpa using h
theorem nil_of_C {α : Type} {d : Kd α} {w : World} {n : Nat} {xs : List α} (h : d.C w none n xs) : n = 0 ∧ xs = [] := by
  obtain ⟨h1, h2⟩ := h
  have : ¬ 0 < n := by
    intro hn
    have h3 := Kd.C_get (d := d) (w := w) (A := none) (n := n) (xs := xs) ⟨h1, h2⟩
    cases xs with
    | nil => simp at h1; omega
    | cons x xs =>
      obtain ⟨ad, c, e, _⟩ := h3 x 0 (Int.le_refl _) (by omega)
      cases e
  refine ⟨by omega, List.eq_nil_of_length_eq_zero (by omega)⟩
theorem mM_of_K99 {w : World} {base : Nat} {ok : Nat → Prop} {x : S99} {cs : List Value} (h : k99.K w x cs) : k99.M w base ok x cs := by
  obtain rfl := k99_open h
  exact k99_mkM w base ok x
set_option maxHeartbeats 4000000 in
set_option maxRecDepth 1000000 in
theorem clone_int (A : Option Addr) (c : Nat) (xs : List Int) (w : World) (h : Kd.C (Kd.int .i64) w A xs.length xs) (hl : xs.length * 8 ≤ 140737488355328) :
    Calls Try.prog 48 #[.slice A xs.length c] w fun e w' => ∃ v, e = .returned v ∧ Kd.R (Kd.int .i64) 3 w' w.heap.size (fun _ => True) v xs ∧ Below w.heap.size w w' := by
  have HC := Aside0.mk h
  have HL := Aside0.mk hl
  clear h hl
  cases A with
  | none =>
    obtain ⟨h0, rfl⟩ := nil_of_C HC.out
    have heq := fun w => Lib.run_eql_slice_nil (P := Try.prog) w 24 3 none 0 c 0 0 Try.underlying24
    go_enter Try.func48, Try.ntmps48
    go_wp2
    go_ret
    exact ⟨_, rfl, Kd.R_nil _ _ _ _ _, Below.refl _ _⟩
  | some ad =>
    have heq := fun w => Lib.run_eql_slice_nil (P := Try.prog) w 24 3 (some ad) xs.length c 0 0 Try.underlying24
    have HB := Aside0.mk (below_alloc (Below.refl w.heap.size w) (.cells #[] 3))
    have HE := Aside0.mk (empty_row (Kd.int .i64) w 3)
    have HA := Aside0.mk (Kd.C_below HC.out HB.out)
    go_enter Try.func48, Try.ntmps48
    go_wp2_with ((with_reducible refine gate_builtin (b := .append) (xs := #[.tmp 5, .tmp 6]) rfl ?_); at_builtin; refine Kd.R_append_rows (Kd.int .i64) (w0 := w) w.heap.size rfl (.tmp 5) (.tmp 6) 24 3 (.int .i64 0) 8 rfl Try.underlying24 info3 rfl (by decide) (by omega) (.slice (some ⟨w.heap.size, 0, none⟩) 0 0) [] xs _ _ _ (fun _ => True) (fun _ => False) rfl rfl HE.out HA.out ?aM (fun _ h => h.elim) (fun _ _ => trivial) HB.out (by simp) ?aL ?_; (case aM => intro x cs h; exact h); (case aL => have := HL.out; simpa using this); intro v1 w1 ho hb hg hat; have HO := Aside0.mk ho; have HB1 := Aside0.mk hb; clear ho hb hg hat)
    go_ret
    exact ⟨_, rfl, by simpa using HO.out, HB1.out⟩
set_option maxHeartbeats 4000000 in
set_option maxRecDepth 1000000 in
theorem clone_workers (A : Option Addr) (c : Nat) (xs : List S99) (w : World) (h : Kd.C k99 w A xs.length xs) (hl : xs.length * 24 ≤ 140737488355328) :
    Calls Try.prog 67 #[.slice A xs.length c] w fun e w' => ∃ v, e = .returned v ∧ Kd.R k99 99 w' w.heap.size (fun _ => True) v xs ∧ Below w.heap.size w w' := by
  have HC := Aside0.mk h
  have HL := Aside0.mk hl
  clear h hl
  cases A with
  | none =>
    obtain ⟨h0, rfl⟩ := nil_of_C HC.out
    have heq := fun w => Lib.run_eql_slice_nil (P := Try.prog) w 95 99 none 0 c 0 0 Try.underlying95
    go_enter Try.func67, Try.ntmps67
    go_wp2
    go_ret
    exact ⟨_, rfl, Kd.R_nil _ _ _ _ _, Below.refl _ _⟩
  | some ad =>
    have heq := fun w => Lib.run_eql_slice_nil (P := Try.prog) w 95 99 (some ad) xs.length c 0 0 Try.underlying95
    have HB := Aside0.mk (below_alloc (Below.refl w.heap.size w) (.cells #[] 99))
    have HE := Aside0.mk (empty_row k99 w 99)
    have HA := Aside0.mk (Kd.C_below HC.out HB.out)
    go_enter Try.func67, Try.ntmps67
    go_wp2_with ((with_reducible refine gate_builtin (b := .append) (xs := #[.tmp 5, .tmp 6]) rfl ?_); at_builtin; refine Kd.R_append_rows k99 (w0 := w) w.heap.size rfl (.tmp 5) (.tmp 6) 95 99 (.agg #[.int .i64 0, .int .i64 0, .int .i64 0]) 24 rfl Try.underlying95 info99 rfl (by decide) (by omega) (.slice (some ⟨w.heap.size, 0, none⟩) 0 0) [] xs _ _ _ (fun _ => True) (fun _ => False) rfl rfl HE.out HA.out ?aM (fun _ h => h.elim) (fun _ _ => trivial) HB.out (by simp) ?aL ?_; (case aM => intro x cs h; exact mM_of_K99 h); (case aL => have := HL.out; simpa using this); intro v1 w1 ho hb hg hat; have HO := Aside0.mk ho; have HB1 := Aside0.mk hb; clear ho hb hg hat)
    go_ret
    exact ⟨_, rfl, by simpa using HO.out, HB1.out⟩
set_option maxHeartbeats 4000000 in
set_option maxRecDepth 1000000 in
theorem copied_calls (A : Option Addr) (c : Nat) (xs : List Int) (w : World) (h : Kd.C (Kd.int .i64) w A xs.length xs) (hl : xs.length * 8 ≤ 140737488355328) :
    Calls Try.prog 52 #[.slice A xs.length c] w fun e w' => ∃ v, e = .returned v ∧ Kd.R (Kd.int .i64) 3 w' w.heap.size (fun _ => True) v xs ∧ Below w.heap.size w w' := by
  have HC := Aside0.mk h
  have HL := Aside0.mk hl
  clear h hl
  obtain ⟨i0, hi, hzz⟩ := Option.map_eq_some_iff.1 info3
  simp only [Prod.mk.injEq] at hzz
  obtain ⟨hz0, hz1, hz2⟩ := hzz
  have HI := Aside0.mk hi
  have HZ0 := Aside0.mk hz0
  have HZ1 := Aside0.mk hz1
  have HZ2 := Aside0.mk hz2
  clear hi hz0 hz1 hz2
  go_enter Try.func52, Try.ntmps52
  go_wp2_with (first
    | (at_make; refine wpList_make_own _ rfl _ _ 24 rfl w.heap.size 3 i0 (.int .i64 0) 1 Try.underlying24 HI.out HZ0.out HZ1.out .i64 .i64 _ xs.length rfl rfl rfl ?m1 ?m2 (Nat.le_refl _) ?_; (case m1 => rw [HZ2.out]; have := HL.out; omega); (case m2 => unfold maxLen; have := HL.out; omega); intro w1 hown hgr; have HB := Aside0.mk ((Below.refl w.heap.size w).grown hgr (Nat.le_refl _) (fun k hk => by cases hk)); have HO := Aside0.mk (show Kd.R (Kd.int .i64) 3 w1 w.heap.size (fun _ => True) (.slice (some ⟨w.heap.size, 0, none⟩) 0 xs.length) [] from ⟨fun _ _ => trivial, [], hown, Reps.none _ _⟩); have HA := Aside0.mk (Kd.C_below HC.out HB.out); clear hown hgr)
    | ((with_reducible refine gate_builtin (b := .append) (xs := #[.tmp 5, .tmp 6]) rfl ?_); at_builtin; refine Kd.R_append_rows (Kd.int .i64) (w0 := w) w.heap.size rfl (.tmp 5) (.tmp 6) 24 3 (.int .i64 0) 8 rfl Try.underlying24 info3 rfl (by decide) (by omega) (.slice (some ⟨w.heap.size, 0, none⟩) 0 xs.length) [] xs _ _ _ (fun _ => True) (fun _ => False) rfl rfl HO.out HA.out ?aM (fun _ h => h.elim) (fun _ _ => trivial) HB.out ?aS ?aL ?_; (case aM => intro x cs h; exact h); (case aS => exact HB.out.size); (case aL => have := HL.out; simpa using this); intro v1 w2 ho hb hg hat; have HO1 := Aside0.mk ho; have HB1 := Aside0.mk hb; clear ho hb hg hat))
  go_ret
  exact ⟨_, rfl, by simpa using HO1.out, HB1.out⟩
end Go.Proofs.Ythcchpbidbbiaaa.Sc
namespace Go.Proofs.Ythcchpbidbbiaaa.Sc
open Go.RowKit Go.Proofs.YthcchpbidbbiaaaW.PrintWords Go.Proofs.YthcchpbidbbiaaaW.PrintLast Go.Proofs.YthcchpbidbbiaaaW.PrintMore Go.Proofs.Ythcchpbidbbiaaa.PSchedSide
set_option linter.unusedVariables false
set_option linter.unusedSimpArgs false
set_option maxHeartbeats 4000000 in
set_option maxRecDepth 1000000 in
theorem und_calls (w : World) (g : Nat) (s : Sh) (m : Mach) (u : Int) (hI : IsM w g s m) (hO : Ok m) (hu : und m = u) :
    Calls Try.prog 54 #[.pointer (some ⟨g, 0, none⟩)] w fun e w' => e = .returned (.int .i64 u) ∧ ∃ n, w' = w.drewN n := by
  subst hu
  obtain ⟨AJ, cJ, AW, cW, AS, cS, AG, cG, AO, cO, rfl⟩ := hI.slices
  obtain ⟨h0, h1, h2, h3, h4, h5, h6, h7, h8, h9, h10, h11, h12, h13, h14, h15, h16⟩ := hI.cells
  have hn := hO.nx
  have hj := hO.nj
  have HI := Aside0.mk hI
  have HO := Aside0.mk hO
  clear hI hO
  by_cases hd : m.dropped = true
  · rw [hd] at h5
    have HU := Aside0.mk (show und m = 0 from by simp [und, hd])
    go_enter Try.func54, Try.ntmps54
    go_wp2
    go_ret
    exact ⟨by rw [HU.out]; rfl, 0, rfl⟩
  · replace hd := Bool.eq_false_iff.mpr hd
    rw [hd] at h5
    have HU := Aside0.mk (show und m = m.jobs.length - m.next from by simp [und, hd])
    go_enter Try.func54, Try.ntmps54
    go_wp2
    go_quiet (fail)
    go_wp2
    go_ret
    exact ⟨by rw [HU.out]; rfl, _, rfl⟩
end Go.Proofs.Ythcchpbidbbiaaa.Sc
namespace Go.Proofs.Ythcchpbidbbiaaa.Sc
open Go.RowKit Go.Proofs.YthcchpbidbbiaaaW.PrintWords Go.Proofs.YthcchpbidbbiaaaW.PrintLast Go.Proofs.YthcchpbidbbiaaaW.PrintMore Go.Proofs.Ythcchpbidbbiaaa.PSchedSide
set_option linter.unusedVariables false
set_option linter.unusedSimpArgs false
abbrev ptr (g : Nat) : Value := .pointer (some ⟨g, 0, none⟩)
def readyD (m : Mach) (stop : Bool) : Bool := m.disp && (if und m = 0 then !stop else stop || decide ((m.sent.length : Int) < m.pj))
def funD (m : Mach) (stop : Bool) (c : Nat) : Value := if !m.disp || (stop && und m == 0) then .nilFunc else if und m = 0 then .func (.func 77) #[] #[ptr c] else if stop then .func (.func 78) #[] #[ptr c] else .func (.func 79) #[] #[ptr c]
set_option maxHeartbeats 4000000 in
set_option maxRecDepth 1000000 in
theorem dispatches_calls (w : World) (g : Nat) (s : Sh) (m : Mach) (p : Int) (stop : Bool) (hI : IsM w g s m) (hO : Ok m) :
    Calls Try.prog 69 #[.pointer (some ⟨g, 0, none⟩), .int .i64 p, .bool stop] w fun e w' => e = .returned (.tuple #[funD m stop w.heap.size, .bool (readyD m stop)]) ∧ Drawn0 (w.alloc (.cells #[ptr g] 32)) w' := by
  obtain ⟨AJ, cJ, AW, cW, AS, cS, AG, cG, AO, cO, rfl⟩ := hI.slices
  have hI1 := hI.alloc (.cells #[ptr g] 32)
  have hc := heap_alloc_new w (.cells #[ptr g] 32)
  obtain ⟨h0, h1, h2, h3, h4, h5, h6, h7, h8, h9, h10, h11, h12, h13, h14, h15, h16⟩ := hI1.cells
  have HI := Aside0.mk hI1
  have HO := Aside0.mk hO
  clear hI hI1 hO
  have hcap : (w.alloc (.cells #[ptr g] 32)).cell? ⟨w.heap.size, 0, none⟩ = some (.pointer (some ⟨g, 0, none⟩)) := (blk_cell hc 0).trans rfl
  obtain ⟨u, hu⟩ : ∃ u, und m = u := ⟨_, rfl⟩
  have HU := Aside0.mk hu
  have hmf : ∀ (fn : Fn) (first cap : Array Value) (w : World), (Instr.makeFunc fn first cap).run Try.prog w = .ok (.func fn first cap) w := fun _ _ _ _ => rfl
  by_cases hd : m.disp = true
  · rw [hd] at h6
    by_cases hu0 : u = 0
    · have b0 : (u == 0) = true := by simp [hu0]
      cases stop with
      | true =>
        have HR := Aside0.mk (show readyD m true = false from by simp [readyD, hd, HU.out, hu0])
        have HF := Aside0.mk (show funD m true w.heap.size = .nilFunc from by simp [funD, hd, HU.out, hu0])
        clear hd hu0 hu
        go_enter Try.func69, Try.ntmps69
        go_wp2_with (first | (go_at_call 54; (with_reducible refine (und_calls _ g _ m u HI.out HO.out HU.out).mono ?_); rintro e w2 ⟨rfl, nd, rfl⟩) | (go_at_call 54; (with_reducible refine (und_calls _ g _ m u (IsM.drewN HI.out _) HO.out HU.out).mono ?_); rintro e w2 ⟨rfl, nd, rfl⟩))
        go_ret2
        exact ⟨by rw [HR.out, HF.out]; rfl, by repeat (first | (with_reducible exact Drawn0.refl _) | refine Drawn0.step ?_ _)⟩
      | false =>
        have HR := Aside0.mk (show readyD m false = true from by simp [readyD, hd, HU.out, hu0])
        have HF := Aside0.mk (show funD m false w.heap.size = .func (.func 77) #[] #[ptr w.heap.size] from by simp [funD, hd, HU.out, hu0])
        clear hd hu0 hu
        go_enter Try.func69, Try.ntmps69
        go_wp2_with (first | (go_at_call 54; (with_reducible refine (und_calls _ g _ m u HI.out HO.out HU.out).mono ?_); rintro e w2 ⟨rfl, nd, rfl⟩) | (go_at_call 54; (with_reducible refine (und_calls _ g _ m u (IsM.drewN HI.out _) HO.out HU.out).mono ?_); rintro e w2 ⟨rfl, nd, rfl⟩))
        go_ret2
        exact ⟨by rw [HR.out, HF.out]; rfl, by repeat (first | (with_reducible exact Drawn0.refl _) | refine Drawn0.step ?_ _)⟩
    · have b0 : (u == 0) = false := by simp [hu0]
      cases stop with
      | true =>
        have HR := Aside0.mk (show readyD m true = true from by simp [readyD, hd, HU.out, hu0])
        have HF := Aside0.mk (show funD m true w.heap.size = .func (.func 78) #[] #[ptr w.heap.size] from by simp [funD, hd, HU.out, hu0])
        clear hd hu0 hu
        go_enter Try.func69, Try.ntmps69
        go_wp2_with (first | (go_at_call 54; (with_reducible refine (und_calls _ g _ m u HI.out HO.out HU.out).mono ?_); rintro e w2 ⟨rfl, nd, rfl⟩) | (go_at_call 54; (with_reducible refine (und_calls _ g _ m u (IsM.drewN HI.out _) HO.out HU.out).mono ?_); rintro e w2 ⟨rfl, nd, rfl⟩))
        go_ret2
        exact ⟨by rw [HR.out, HF.out]; rfl, by repeat (first | (with_reducible exact Drawn0.refl _) | refine Drawn0.step ?_ _)⟩
      | false =>
        have HR := Aside0.mk (show readyD m false = decide ((m.sent.length : Int) < m.pj) from by simp [readyD, hd, HU.out, hu0])
        have HF := Aside0.mk (show funD m false w.heap.size = .func (.func 79) #[] #[ptr w.heap.size] from by simp [funD, hd, HU.out, hu0])
        clear hd hu0 hu
        go_enter Try.func69, Try.ntmps69
        go_wp2_with (first | (go_at_call 54; (with_reducible refine (und_calls _ g _ m u HI.out HO.out HU.out).mono ?_); rintro e w2 ⟨rfl, nd, rfl⟩) | (go_at_call 54; (with_reducible refine (und_calls _ g _ m u (IsM.drewN HI.out _) HO.out HU.out).mono ?_); rintro e w2 ⟨rfl, nd, rfl⟩))
        first | (go_quiet (fail)) | go_region
        go_wp2
        go_ret2
        exact ⟨by rw [HR.out, HF.out]; rfl, by repeat (first | (with_reducible exact Drawn0.refl _) | refine Drawn0.step ?_ _)⟩
  · replace hd := Bool.eq_false_iff.mpr hd
    rw [hd] at h6
    have HR := Aside0.mk (show readyD m stop = false from by simp [readyD, hd])
    have HF := Aside0.mk (show funD m stop w.heap.size = .nilFunc from by simp [funD, hd])
    clear hd hu
    go_enter Try.func69, Try.ntmps69
    go_wp2
    go_ret2
    exact ⟨by rw [HR.out, HF.out]; rfl, Drawn0.refl _⟩
end Go.Proofs.Ythcchpbidbbiaaa.Sc
namespace Go.Proofs.Ythcchpbidbbiaaa.Sc
open Go.RowKit Go.Proofs.YthcchpbidbbiaaaW.PrintWords Go.Proofs.YthcchpbidbbiaaaW.PrintLast Go.Proofs.YthcchpbidbbiaaaW.PrintMore Go.Proofs.Ythcchpbidbbiaaa.PSchedSide
set_option linter.unusedVariables false
set_option linter.unusedSimpArgs false
theorem mf (fn : Fn) (first cap : Array Value) (w : World) : (Instr.makeFunc fn first cap).run Try.prog w = .ok (.func fn first cap) w := rfl
set_option maxHeartbeats 4000000 in
set_option maxRecDepth 1000000 in
theorem end_calls (w : World) (o k : Int) (cm cp : Value) :
    Calls Try.prog 86 #[.int .i64 o, .int .i64 k, cm, cp] w fun e w' => e = .returned (.func (.func 87) #[] #[ptr w.heap.size, cm, ptr (w.heap.size + 1), cp]) ∧ w' = (w.alloc (.cells #[.int .i64 o] 3)).alloc (.cells #[.int .i64 k] 3) := by
  have hmf := mf
  go_enter Try.func86, Try.ntmps86
  go_wp2
  go_ret
  exact ⟨by simp, rfl⟩
def readyC (m : Mach) (stop : Bool) : Bool := m.coll && (stop || decide (m.got.length = m.jobs.length) || decide (0 < m.given.length))
def funC (m : Mach) (stop : Bool) (b : Nat) : Value := if !m.coll then .nilFunc else if stop || decide (m.got.length = m.jobs.length) then .func (.func 87) #[] #[ptr (b + 2), ptr b, ptr (b + 3), ptr (b + 1)] else .func (.func 88) #[] #[ptr b, ptr (b + 1)]
def worldC (w : World) (g : Nat) (p : Int) : World := (w.alloc (.cells #[ptr g] 32)).alloc (.cells #[.int .i64 p] 3)
def endW (w : World) (o k : Int) : World := (w.alloc (.cells #[.int .i64 o] 3)).alloc (.cells #[.int .i64 k] 3)
def worldC' (m : Mach) (stop : Bool) (w : World) (g : Nat) (p : Int) : World := if !m.coll then worldC w g p else if stop then endW (worldC w g p) 2 11 else if m.got.length = m.jobs.length then endW (worldC w g p) 1 10 else worldC w g p
set_option maxHeartbeats 4000000 in
set_option maxRecDepth 1000000 in
theorem collects_calls (w : World) (g : Nat) (s : Sh) (m : Mach) (p : Int) (stop : Bool) (hI : IsM w g s m) (hO : Ok m) :
    Calls Try.prog 71 #[.pointer (some ⟨g, 0, none⟩), .int .i64 p, .bool stop] w fun e w' => e = .returned (.tuple #[funC m stop w.heap.size, .bool (readyC m stop)]) ∧ Drawn0 (worldC' m stop w g p) w' := by
  obtain ⟨AJ, cJ, AW, cW, AS, cS, AG, cG, AO, cO, rfl⟩ := hI.slices
  have hI1 := (hI.alloc (.cells #[ptr g] 32)).alloc (.cells #[.int .i64 p] 3)
  have hc0 := blk_alloc (heap_alloc_new w (.cells #[ptr g] 32)) (.cells #[.int .i64 p] 3)
  have hc1 := heap_alloc_new (w.alloc (.cells #[ptr g] 32)) (.cells #[.int .i64 p] 3)
  obtain ⟨h0, h1, h2, h3, h4, h5, h6, h7, h8, h9, h10, h11, h12, h13, h14, h15, h16⟩ := hI1.cells
  have HI := Aside0.mk hI1
  have HO := Aside0.mk hO
  clear hI hI1 hO
  have hcap : ((w.alloc (.cells #[ptr g] 32)).alloc (.cells #[.int .i64 p] 3)).cell? ⟨w.heap.size, 0, none⟩ = some (.pointer (some ⟨g, 0, none⟩)) := (blk_cell hc0 0).trans rfl
  have hmf := mf
  by_cases hd : m.coll = true
  · rw [hd] at h7
    cases stop with
    | true =>
      have HR := Aside0.mk (show readyC m true = true from by simp [readyC, hd])
      have HF := Aside0.mk (show funC m true w.heap.size = .func (.func 87) #[] #[ptr (w.heap.size + 2), ptr w.heap.size, ptr (w.heap.size + 3), ptr (w.heap.size + 1)] from by simp [funC, hd])
      have HW := Aside0.mk (show worldC' m true w g p = endW (worldC w g p) 2 11 from by simp [worldC', hd])
      clear hd
      go_enter Try.func71, Try.ntmps71
      go_wp2_with (first | (go_at_call 86; (with_reducible refine (end_calls _ 2 11 _ _).mono ?_); rintro e w2 ⟨rfl, rfl⟩))
      go_ret2
      exact ⟨by rw [HR.out, HF.out]; simp, by rw [HW.out]; exact Drawn0.refl _⟩
    | false =>
      by_cases hl : m.got.length = m.jobs.length
      · have b0 : ((m.got.length : Int) == (m.jobs.length : Int)) = true := by simp [hl]
        have HR := Aside0.mk (show readyC m false = true from by simp [readyC, hd, hl])
        have HF := Aside0.mk (show funC m false w.heap.size = .func (.func 87) #[] #[ptr (w.heap.size + 2), ptr w.heap.size, ptr (w.heap.size + 3), ptr (w.heap.size + 1)] from by simp [funC, hd, hl])
        have HW := Aside0.mk (show worldC' m false w g p = endW (worldC w g p) 1 10 from by simp [worldC', hd, hl])
        clear hd hl
        go_enter Try.func71, Try.ntmps71
        go_wp2
        go_quiet (fail)
        go_wp2_with (first | (go_at_call 86; (with_reducible refine (end_calls _ 1 10 _ _).mono ?_); rintro e w2 ⟨rfl, rfl⟩))
        go_ret2
        exact ⟨by rw [HR.out, HF.out]; simp, by rw [HW.out]; exact ⟨_, rfl⟩⟩
      · have b0 : ((m.got.length : Int) == (m.jobs.length : Int)) = false := by simp; omega
        have HR := Aside0.mk (show readyC m false = decide (0 < m.given.length) from by simp [readyC, hd, hl])
        have HF := Aside0.mk (show funC m false w.heap.size = .func (.func 88) #[] #[ptr w.heap.size, ptr (w.heap.size + 1)] from by simp [funC, hd, hl])
        have HW := Aside0.mk (show worldC' m false w g p = worldC w g p from by simp [worldC', hd, hl])
        clear hd hl
        go_enter Try.func71, Try.ntmps71
        go_wp2
        go_quiet (fail)
        go_wp2
        go_quiet (fail)
        go_wp2
        go_ret2
        exact ⟨by rw [HR.out, HF.out]; simp, by rw [HW.out]; unfold worldC; repeat (first | (with_reducible exact Drawn0.refl _) | refine Drawn0.step ?_ _)⟩
  · replace hd := Bool.eq_false_iff.mpr hd
    rw [hd] at h7
    have HR := Aside0.mk (show readyC m stop = false from by simp [readyC, hd])
    have HF := Aside0.mk (show funC m stop w.heap.size = .nilFunc from by simp [funC, hd])
    have HW := Aside0.mk (show worldC' m stop w g p = worldC w g p from by simp [worldC', hd])
    clear hd
    go_enter Try.func71, Try.ntmps71
    go_wp2
    go_ret2
    exact ⟨by rw [HR.out, HF.out]; rfl, by rw [HW.out]; exact Drawn0.refl _⟩
end Go.Proofs.Ythcchpbidbbiaaa.Sc
