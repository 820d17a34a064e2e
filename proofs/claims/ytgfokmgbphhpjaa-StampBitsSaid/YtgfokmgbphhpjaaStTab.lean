/- A table in memory, and in plain terms. -/
import Derived.Test.YtgfokmgbphhpjaaStStamp
import Derived.Maps.GroupsBeside
import Derived.Maps.Views
namespace Go.Proofs.Ytgfokmgbphhpjaa.St
open Go.RowKit Go.Proofs.YtgfokmgbphhpjaaW.PrintWords Go.Proofs.YtgfokmgbphhpjaaW.PrintLast Go.Proofs.YtgfokmgbphhpjaaW.PrintMore Go.Proofs.Ytgfokmgbphhpjaa.PStampKeeps
open Go.Maps Go.WideElems Go.MapKept Go.ChangeMaps Go.ChangeShapes
set_option linter.unusedVariables false
set_option linter.unusedSimpArgs false
/-- A table: its bits, its room, its rows, how often it looked, how often they were the same. -/
structure Tab where
  bits : Nat
  room : Nat
  rows : List (List Int)
  looked : Nat
  same : Nat
/-- The numbers of the rows with a stamp, rising. -/
def idxs (b : Nat) (rows : List (List Int)) (s : Nat) : List Int := ((List.range rows.length).filter (fun i => decide (stN b (rows.getD i []) = s))).map (fun i => ((i : Nat) : Int))
theorem idxs_nil (b s : Nat) : idxs b [] s = [] := rfl
theorem idxs_snoc (b : Nat) (rows : List (List Int)) (r : List Int) (s : Nat) : idxs b (rows ++ [r]) s = idxs b rows s ++ (if stN b r = s then [(rows.length : Int)] else []) := by
  unfold idxs
  rw [List.length_append, List.length_singleton, List.range_succ, List.filter_append, List.map_append]
  refine congr (congrArg _ ?_) ?_
  · refine congrArg _ (List.filter_congr (fun i hi => ?_))
    rw [List.mem_range] at hi
    rw [List.getD_eq_getElem?_getD, List.getD_eq_getElem?_getD, List.getElem?_append_left hi]
  · have e1 : (rows ++ [r]).getD rows.length [] = r := by simp
    by_cases h : stN b r = s
    · rw [if_pos h, List.filter_cons_of_pos (by rw [e1]; exact decide_eq_true h), List.filter_nil, List.map_cons, List.map_nil]
    · rw [if_neg h, List.filter_cons_of_neg (by rw [e1, decide_eq_false h]; exact Bool.false_ne_true), List.filter_nil, List.map_nil]
theorem idxs_mem {b : Nat} {rows : List (List Int)} {s : Nat} {x : Int} (h : x ∈ idxs b rows s) : 0 ≤ x ∧ x < rows.length := by
  unfold idxs at h
  obtain ⟨i, hi, rfl⟩ := List.mem_map.1 h
  have := (List.mem_filter.1 hi).1
  rw [List.mem_range] at this
  omega
theorem idxs_length (b : Nat) (rows : List (List Int)) (s : Nat) : (idxs b rows s).length ≤ rows.length := by
  unfold idxs
  rw [List.length_map]
  have := List.length_filter_le (fun i => decide (stN b (rows.getD i []) = s)) (List.range rows.length)
  rw [List.length_range] at this
  exact this
/-- A list of numbers as an element of the map. -/
def datum (l : List Int) : DataW Unit := if l = [] then .nil else .slice (lits .i64 l) []
theorem lits_inj {q : IntKind} {a b : List Int} (h : lits (H := Unit) q a = lits q b) : a = b := by
  unfold lits at h
  exact (List.map_inj_right (fun x y hxy => by cases hxy; rfl)).1 h
theorem datum_row {w : World} {base : Nat} {v : Value} {zs l : List Int} (ho : w.ownsInts base 3 .i64 v zs) (h : datum l = rowDatum (H := Unit) .i64 v zs) : zs = l := by
  unfold datum at h
  split at h
  · rename_i h0
    rcases ho.datum (H := Unit) with ⟨_, h2⟩ | h2
    · rw [h2, h0]
    · rw [h2] at h; cases h
  · rcases ho.datum (H := Unit) with ⟨h1, h2⟩ | h2
    · rw [h1] at h; cases h
    · rw [h2] at h
      injection h with h3
      exact (lits_inj h3).symm
section
variable {H : Type} {P : Program} {k : TypeId} {w w' : World} {base : Nat} {e : TypeId} {q : IntKind} {b n : Nat} {D : DataW H} {G : Nat → Prop}
theorem ints_move {v : Value} {zs : List Int} (h : w.ownsInts base e q v zs) (hm : ∀ k, v.ownBlock = some k → w'.heap[k]? = w.heap[k]?) : w'.ownsInts base e q v zs := ⟨own_move h.1 hm, h.2⟩
theorem groups_move (h : w.ownsGroups P k base e q b n D) (hb' : w'.heap[b]? = w.heap[b]?) (hs : w.Shuns b (fun k => ¬ G k)) (hm : ∀ k, G k → w'.heap[k]? = w.heap[k]?) : w'.ownsGroups P k base e q b n D := by
  obtain ⟨es, clock, hb, F, hsz, rfl, hbb, hlen, hap⟩ := h
  have mv : ∀ x ∈ es.toList, ∀ k, x.val.ownBlock = some k → w'.heap[k]? = w.heap[k]? := fun x hx k hk => hm k (Classical.not_not.1 (hs es clock hb x hx k hk))
  have hst : ∀ x ∈ es.toList, ∀ z, rowElem (H := H) w base e q x.val = some z → rowElem w' base e q x.val = some z := fun x hx z hz => by
    obtain ⟨zs, ho, rfl⟩ := rowElem_inv hz
    exact rowElem_mk (ints_move ho (mv x hx))
  obtain ⟨F1, hmap, _⟩ := F.stay hst
  refine ⟨es, clock, hb'.trans hb, F1, hsz, by rw [hmap], hbb, fun x hx zs ho => ?_, hap⟩
  obtain ⟨y, hy⟩ := F.reads x hx
  obtain ⟨z, hz, _⟩ := rd_val hy
  obtain ⟨zs0, ho0, _⟩ := rowElem_inv hz
  rw [ho.unique (ints_move ho0 (mv x hx))]
  exact hlen x hx zs0 ho0
theorem shuns_move {No : Nat → Prop} (h : w.Shuns b No) (hb' : w'.heap[b]? = w.heap[b]?) : w'.Shuns b No := fun es clock hb => h es clock (hb'.symm.trans hb)
end
/-- The blocks of a table: the rows' and the groups' lie apart. -/
structure IsT (w : World) (pt : Nat) (T : Tab) (F : Nat → Prop) (bm : Nat) (vr : Value) (FR FG : Nat → Prop) (D : DataW Unit) : Prop where
  blk : w.heap[pt]? = some (.cells #[.int .i64 T.bits, .int .i64 T.room, vr, .map (some bm), .int .i64 T.looked, .int .i64 T.same] 81 (0, 0))
  rows : Kd.R (Kd.slice 5 (Kd.int .u8)) 27 w 0 FR vr T.rows
  grp : w.ownsGroups Try.prog 30 (bm + 1) 3 .i64 bm T.rows.length D
  shun : w.Shuns bm (fun k => ¬ FG k)
  isMap : Maps.IsMap D
  hat : ∀ s : Nat, s < 18446744073709551616 → D.atKey (.int .u64 (s : Int)) .nil = datum (idxs T.bits T.rows s)
  fp : F pt
  fm : F bm
  fr : ∀ k, FR k → F k
  fg : ∀ k, FG k → F k
  lt : ∀ k, F k → k < w.heap.size
  rp : ¬ FR pt
  rm : ¬ FR bm
  gp : ¬ FG pt
  gm : ¬ FG bm
  rg : ∀ k, FR k → ¬ FG k
  pm : pt ≠ bm
  bits : T.bits ≤ 64
  len : T.rows.length ≤ T.room
  room : T.room ≤ 20000
  byt : ∀ r ∈ T.rows, r.length ≤ 140737488351232 ∧ ∀ x ∈ r, 0 ≤ x ∧ x < 256
/-- A world that keeps a table's blocks keeps the table. -/
theorem IsT.move {w w' : World} {pt : Nat} {T : Tab} {F : Nat → Prop} {bm : Nat} {vr : Value} {FR FG : Nat → Prop} {D : DataW Unit} (h : IsT w pt T F bm vr FR FG D) (hm : ∀ k, F k → w'.heap[k]? = w.heap[k]?) (hs : w.heap.size ≤ w'.heap.size) : IsT w' pt T F bm vr FR FG D where
  blk := (hm pt h.fp).trans h.blk
  rows := Kd.R_move h.rows (fun k hk => hm k (h.fr k hk))
  grp := groups_move h.grp (hm bm h.fm) h.shun (fun k hk => hm k (h.fg k hk))
  shun := shuns_move h.shun (hm bm h.fm)
  isMap := h.isMap
  hat := h.hat
  fp := h.fp
  fm := h.fm
  fr := h.fr
  fg := h.fg
  lt := fun k hk => Nat.lt_of_lt_of_le (h.lt k hk) hs
  rp := h.rp
  rm := h.rm
  gp := h.gp
  gm := h.gm
  rg := h.rg
  pm := h.pm
  bits := h.bits
  len := h.len
  room := h.room
  byt := h.byt
/-- A world in which at most the struct's block has been written. -/
theorem IsT.box {w w' : World} {pt : Nat} {T T' : Tab} {F : Nat → Prop} {bm : Nat} {vr : Value} {FR FG : Nat → Prop} {D : DataW Unit} (h : IsT w pt T F bm vr FR FG D) (hm : ∀ k, k ≠ pt → F k → w'.heap[k]? = w.heap[k]?) (hs : w.heap.size ≤ w'.heap.size)
    (hb : w'.heap[pt]? = some (.cells #[.int .i64 T'.bits, .int .i64 T'.room, vr, .map (some bm), .int .i64 T'.looked, .int .i64 T'.same] 81 (0, 0))) (e1 : T'.bits = T.bits) (e2 : T'.room = T.room) (e3 : T'.rows = T.rows) : IsT w' pt T' F bm vr FR FG D where
  blk := hb
  rows := by rw [e3]; exact Kd.R_move h.rows (fun k hk => hm k (fun e => h.rp (e ▸ hk)) (h.fr k hk))
  grp := by rw [e3]; exact groups_move h.grp (hm bm (fun e => h.pm e.symm) h.fm) h.shun (fun k hk => hm k (fun e => h.gp (e ▸ hk)) (h.fg k hk))
  shun := shuns_move h.shun (hm bm (fun e => h.pm e.symm) h.fm)
  isMap := h.isMap
  hat := by rw [e1, e3]; exact h.hat
  fp := h.fp
  fm := h.fm
  fr := h.fr
  fg := h.fg
  lt := fun k hk => Nat.lt_of_lt_of_le (h.lt k hk) hs
  rp := h.rp
  rm := h.rm
  gp := h.gp
  gm := h.gm
  rg := h.rg
  pm := h.pm
  bits := by rw [e1]; exact h.bits
  len := by rw [e2, e3]; exact h.len
  room := by rw [e2]; exact h.room
  byt := by rw [e3]; exact h.byt
end Go.Proofs.Ytgfokmgbphhpjaa.St
