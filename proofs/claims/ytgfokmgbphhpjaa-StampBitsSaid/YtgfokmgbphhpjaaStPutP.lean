/- What Put leaves of a table. -/
import Derived.Test.YtgfokmgbphhpjaaStFind
namespace Go.Proofs.Ytgfokmgbphhpjaa.St
open Go.RowKit Go.Proofs.YtgfokmgbphhpjaaW.PrintWords Go.Proofs.YtgfokmgbphhpjaaW.PrintLast Go.Proofs.YtgfokmgbphhpjaaW.PrintMore Go.Proofs.Ytgfokmgbphhpjaa.PStampKeeps
open Go.Maps Go.WideElems Go.MapKept Go.ChangeMaps Go.ChangeShapes
set_option linter.unusedVariables false
set_option linter.unusedSimpArgs false
theorem pw_one {α : Type} {R : α → α → Prop} {l : List α} (h : l.Pairwise R) {a b : α} (ha : a ∈ l) (hb : b ∈ l) (h1 : ¬ R a b) (h2 : ¬ R b a) : a = b := by
  induction l with
  | nil => cases ha
  | cons x l ih =>
    obtain ⟨hx, hl⟩ := List.pairwise_cons.1 h
    rcases List.mem_cons.1 ha with rfl | ha' <;> rcases List.mem_cons.1 hb with rfl | hb'
    · rfl
    · exact absurd (hx _ hb') h1
    · exact absurd (hx _ ha') h2
    · exact ih hl ha' hb'
/-- The world between the rows' growth and the group's. -/
structure Mid (w : World) (pt : Nat) (T : Tab) (b : List Int) (F : Nat → Prop) (bm : Nat) (vr : Value) (FR FG : Nat → Prop) (D : DataW Unit) : Prop where
  blk : w.heap[pt]? = some (.cells (tabCells T vr bm) 81 (0, 0))
  rows : Kd.R (Kd.slice 5 (Kd.int .u8)) 27 w 0 FR vr (T.rows ++ [b])
  grp : w.ownsGroups Try.prog 30 (bm + 1) 3 .i64 bm T.rows.length D
  shun : w.Shuns bm (fun k => ¬ FG k)
  isMap : Maps.IsMap D
  hat : ∀ s : Nat, s < 18446744073709551616 → D.atKey (.int .u64 (s : Int)) .nil = datum (idxs T.bits T.rows s)
  fp : F pt
  fm : F bm
  fr : ∀ k, FR k → F k
  fg : ∀ k, FG k → F k
  lt : ∀ k, F k → k < w.heap.size
  rp : ¬ FR pt
  rm : ¬ FR bm
  gp : ¬ FG pt
  gm : ¬ FG bm
  rg : ∀ k, FR k → ¬ FG k
  pm : pt ≠ bm
  bits : T.bits ≤ 64
  len : T.rows.length + 1 ≤ T.room
  room : T.room ≤ 20000
  byt : ∀ r ∈ T.rows ++ [b], r.length ≤ 140737488351232 ∧ ∀ x ∈ r, 0 ≤ x ∧ x < 256
theorem Mid.move {w w' : World} {pt : Nat} {T : Tab} {b : List Int} {F : Nat → Prop} {bm : Nat} {vr : Value} {FR FG : Nat → Prop} {D : DataW Unit} (h : Mid w pt T b F bm vr FR FG D) (hm : ∀ k, F k → w'.heap[k]? = w.heap[k]?) (hs : w.heap.size ≤ w'.heap.size) : Mid w' pt T b F bm vr FR FG D :=
  { h with
    blk := (hm pt h.fp).trans h.blk
    rows := Kd.R_move h.rows (fun k hk => hm k (h.fr k hk))
    grp := groups_move h.grp (hm bm h.fm) h.shun (fun k hk => hm k (h.fg k hk))
    shun := shuns_move h.shun (hm bm h.fm)
    lt := fun k hk => Nat.lt_of_lt_of_le (h.lt k hk) hs }
/-- Behind the append to the rows and the store. -/
theorem mid_of {wA wC wD : World} {pt : Nat} {T : Tab} {b : List Int} {F : Nat → Prop} {bm : Nat} {vr vr1 : Value} {FR FG : Nat → Prop} {D : DataW Unit} (h : IsT wA pt T F bm vr FR FG D) (hb : Below wA.heap.size wA wC) (hg : wC.grownBy wD vr.ownBlock)
    (ho : Kd.R (Kd.slice 5 (Kd.int .u8)) 27 wD 0 (fun k => FR k ∨ wA.heap.size ≤ k) vr1 (T.rows ++ [b])) (hlen : T.rows.length < T.room) (hbl : b.length ≤ 140737488351232) (hbr : ∀ x ∈ b, 0 ≤ x ∧ x < 256) :
    Mid (wD.setCell ⟨pt, 2, none⟩ vr1) pt T b (fun k => F k ∨ (wA.heap.size ≤ k ∧ k < wD.heap.size)) bm vr1 (fun k => FR k ∨ (wA.heap.size ≤ k ∧ k < wD.heap.size)) FG D ∧ Far F wA (wD.setCell ⟨pt, 2, none⟩ vr1) := by
  have hvr : ∀ k, some k = vr.ownBlock → FR k := fun k e => h.rows.1 k e.symm
  have hAD : ∀ k, k < wA.heap.size → ¬ FR k → wD.heap[k]? = wA.heap[k]? := fun k hk hn => (hg.block k (Nat.lt_of_lt_of_le hk hb.size) (fun e => hn (hvr k e))).trans (hb.block k hk)
  have hpt := h.lt pt h.fp
  have hbm := h.lt bm h.fm
  have hAE : ∀ k, k < wA.heap.size → ¬ FR k → k ≠ pt → (wD.setCell ⟨pt, 2, none⟩ vr1).heap[k]? = wA.heap[k]? := fun k hk hn hp => (heap_setCell_other _ _ _ _ hp).trans (hAD k hk hn)
  have hsz : wA.heap.size ≤ wD.heap.size := Nat.le_trans hb.size hg.size
  have hR : Kd.R (Kd.slice 5 (Kd.int .u8)) 27 wD 0 (fun k => FR k ∨ (wA.heap.size ≤ k ∧ k < wD.heap.size)) vr1 (T.rows ++ [b]) := Kd.R_mono (Kd.R_bound ho) (fun k hk => hk.1.elim Or.inl (fun h1 => Or.inr ⟨h1, hk.2.2.1⟩))
  refine ⟨{ blk := ?_, rows := ?_, grp := ?_, shun := ?_, isMap := h.isMap, hat := h.hat, fp := Or.inl h.fp, fm := Or.inl h.fm, fr := ?_, fg := fun k hk => Or.inl (h.fg k hk), lt := ?_, rp := ?_, rm := ?_, gp := h.gp, gm := h.gm, rg := ?_, pm := h.pm, bits := h.bits, len := hlen, room := h.room, byt := ?_ }, ?_⟩
  · exact (blk_set ((hAD pt hpt h.rp).trans h.blk) 2 vr1).trans rfl
  · exact Kd.R_far hR (fun k hk e => by
      subst e
      rcases hk with h1 | h1
      · exact h.rp h1
      · omega) vr1
  · exact groups_move h.grp (hAE bm hbm h.rm (fun e => h.pm e.symm)) h.shun (fun k hk => hAE k (h.lt k (h.fg k hk)) (fun hr => h.rg k hr hk) (fun e => h.gp (e ▸ hk)))
  · exact shuns_move h.shun (hAE bm hbm h.rm (fun e => h.pm e.symm))
  · exact fun k hk => hk.elim (fun h1 => Or.inl (h.fr k h1)) Or.inr
  · intro k hk
    rw [setCell_size]
    rcases hk with h1 | h1
    · exact Nat.lt_of_lt_of_le (h.lt k h1) hsz
    · exact h1.2
  · intro hk
    rcases hk with h1 | h1
    · exact h.rp h1
    · omega
  · intro hk
    rcases hk with h1 | h1
    · exact h.rm h1
    · omega
  · intro k hk hk2
    rcases hk with h1 | h1
    · exact h.rg k h1 hk2
    · have := h.lt k (h.fg k hk2); omega
  · intro r hr
    rcases List.mem_append.1 hr with h1 | h1
    · exact h.byt r h1
    · rw [List.mem_singleton] at h1
      subst h1
      exact ⟨hbl, hbr⟩
  · refine Far.set ?_ h.fp vr1
    exact ((Far.of_below hb (F := F)).trans ((Far.of_grown hg).mono (fun k e => Or.inl (h.fr k (hvr k e)))))
/-- The group of a row, looked up. -/
theorem Mid.look {w : World} {pt : Nat} {T : Tab} {b : List Int} {F : Nat → Prop} {bm : Nat} {vr : Value} {FR FG : Nat → Prop} {D : DataW Unit} (h : Mid w pt T b F bm vr FR FG D) (s : Nat) (hs : s < 18446744073709551616) :
    ∃ v, (Instr.lookup 79 (.map (some bm)) (.int .u64 s) false).run Try.prog w = .ok v w ∧ w.ownsInts (bm + 1) 3 .i64 v (idxs T.bits T.rows s) ∧ (∀ k, v.ownBlock = some k → FG k) ∧ w.groupBack Try.prog 79 30 (bm + 1) 3 .i64 bm T.rows.length D (.int .u64 s) (.int .u64 s) v := by
  have hn : T.rows.length < maxLen := by have := h.len; have := h.room; simp only [maxLen]; omega
  obtain ⟨v, zs, h1, h2, h3, h4, h5⟩ := h.grp.at (int_keyed Try.underlying30) Try.underlying79 (zero82 w) hn (key30 _ hs)
  rw [h.hat _ hs] at h2
  have e := datum_row h3 h2
  refine ⟨v, h1, by rw [e] at h3; exact h3, ?_, h5⟩
  obtain ⟨es, clock, hb, F', _⟩ := h.grp
  intro k hk
  rcases Maps.fit_look false (int_keyed Try.underlying30) Try.underlying79 (zero82 w) hb F' (key30 _ hs) with ⟨hr, _, _⟩ | ⟨e0, y, hm, _, hr, _⟩
  · rw [h1] at hr
    obtain rfl : v = .slice none 0 0 := by simpa using hr
    cases hk
  · rw [h1] at hr
    obtain rfl : v = e0.val := by simpa using hr
    exact Classical.not_not.1 (h.shun es clock hb e0 hm k hk)
/-- Another world with the map as it was: the same group is found. -/
theorem look_same {w w' : World} {bm n : Nat} {D : DataW Unit} {v : Value} (hg : w.ownsGroups Try.prog 30 (bm + 1) 3 .i64 bm n D) (hb' : w'.heap[bm]? = w.heap[bm]?) (s : Nat) (hs : s < 18446744073709551616) (h : (Instr.lookup 79 (.map (some bm)) (.int .u64 s) false).run Try.prog w = .ok v w) :
    (Instr.lookup 79 (.map (some bm)) (.int .u64 s) false).run Try.prog w' = .ok v w' := by
  obtain ⟨es, clock, hb, F, _⟩ := hg
  have pw := ((stamped_iff es clock).1 F.stamped).2.2
  rcases Maps.fit_look false (int_keyed Try.underlying30) Try.underlying79 (zero82 w) hb F (key30 _ hs) with ⟨hr, hn, _⟩ | ⟨e0, y, hm, hk, hr, _⟩
  · rw [h] at hr
    obtain rfl : v = .slice none 0 0 := by simpa using hr
    rcases Maps.fit_look false (int_keyed Try.underlying30) Try.underlying79 (zero82 w') (hb'.trans hb) F (key30 _ hs) with ⟨hr', _, _⟩ | ⟨e1, y', hm', hk', hr', _⟩
    · exact hr'
    · exact absurd hk' (hn e1 hm')
  · rw [h] at hr
    obtain rfl : v = e0.val := by simpa using hr
    rcases Maps.fit_look false (int_keyed Try.underlying30) Try.underlying79 (zero82 w') (hb'.trans hb) F (key30 _ hs) with ⟨hr', hn', _⟩ | ⟨e1, y', hm', hk', hr', _⟩
    · exact absurd hk (hn' e0 hm)
    · obtain rfl : e0 = e1 := pw_one pw hm hm' (fun hne => hne (hk.trans hk'.symm)) (fun hne => hne (hk'.trans hk.symm))
      exact hr'
/-- Behind the append to the group and the store into the map. -/
theorem put_of {W wF wG : World} {pt : Nat} {T : Tab} {b : List Int} {F : Nat → Prop} {bm : Nat} {vr : Value} {FR FG : Nat → Prop} {D : DataW Unit} (h : Mid W pt T b F bm vr FR FG D) {v v1 : Value} (hgr : W.grownBy wF v.ownBlock) (hv : ∀ k, v.ownBlock = some k → FG k) (hat1 : v1.ownBlock = v.ownBlock ∨ ∃ g, v1.ownBlock = some g ∧ W.heap.size ≤ g)
    (hown : wF.ownsInts (bm + 1) 3 .i64 v1 (idxs T.bits T.rows (stN T.bits b) ++ [(T.rows.length : Int)])) (hrun : (Instr.mapUpdate 79 (.map (some bm)) (.int .u64 (stN T.bits b)) v1).run Try.prog wF = .ok () wG)
    (hgG : wG.ownsGroups Try.prog 30 (bm + 1) 3 .i64 bm (T.rows.length + 1) (D.put (.int .u64 (stN T.bits b)) (rowDatum .i64 v1 (idxs T.bits T.rows (stN T.bits b) ++ [(T.rows.length : Int)])))) (hgr2 : wF.grownBy wG (some bm)) :
    IsT wG pt { T with rows := T.rows ++ [b] } (fun k => F k ∨ (W.heap.size ≤ k ∧ k < wG.heap.size)) bm vr FR (fun k => FG k ∨ (W.heap.size ≤ k ∧ k < wG.heap.size)) (D.put (.int .u64 (stN T.bits b)) (rowDatum .i64 v1 (idxs T.bits T.rows (stN T.bits b) ++ [(T.rows.length : Int)]))) ∧ Far F W wG := by
  have hpt := h.lt pt h.fp
  have hbm := h.lt bm h.fm
  have hsz : W.heap.size ≤ wG.heap.size := Nat.le_trans hgr.size hgr2.size
  have hF : ∀ k, k < W.heap.size → ¬ FG k → k ≠ bm → wG.heap[k]? = W.heap[k]? := fun k hk hn hm => (hgr2.block k (Nat.lt_of_lt_of_le hk hgr.size) (fun e => hm (Option.some.inj e))).trans (hgr.block k hk (fun e => hn (hv k e.symm)))
  have hne : idxs T.bits T.rows (stN T.bits b) ++ [(T.rows.length : Int)] ≠ [] := by simp
  refine ⟨{ blk := ?_, rows := ?_, grp := ?_, shun := ?_, isMap := h.isMap.put _ _, hat := ?_, fp := Or.inl h.fp, fm := Or.inl h.fm, fr := fun k hk => Or.inl (h.fr k hk), fg := ?_, lt := ?_, rp := h.rp, rm := h.rm, gp := ?_, gm := ?_, rg := ?_, pm := h.pm, bits := h.bits, len := ?_, room := h.room, byt := h.byt }, ?_⟩
  · exact (hF pt hpt h.gp h.pm).trans h.blk
  · exact Kd.R_move h.rows (fun k hk => hF k (h.lt k (h.fr k hk)) (h.rg k hk) (fun e => h.rm (e ▸ hk)))
  · simpa using hgG
  · obtain ⟨es, clock, hb, F0, hs0, _⟩ := h.grp
    have hb1 : wF.heap[bm]? = some (.map es clock) := (hgr.block bm hbm (fun e => h.gm (hv bm e.symm))).trans hb
    have hn : es.size < maxLen := by have := h.len; have := h.room; simp only [maxLen]; omega
    obtain ⟨es', clock', hb2, hwho⟩ := stored_who (int_keyed Try.underlying30) Try.underlying79 hb1 F0 hn (key30 _ (stN_lt T.bits b)) hrun
    intro es2 clock2 hb2' y hy g hyg
    obtain ⟨rfl, rfl⟩ : es' = es2 ∧ clock' = clock2 := by rw [hb2] at hb2'; simpa using hb2'
    refine not_not_intro ?_
    rcases hwho y hy with ⟨hy0, _⟩ | ⟨_, hval⟩
    · exact Or.inl (Classical.not_not.1 (h.shun es clock hb y hy0 g hyg))
    · rw [hval] at hyg
      rcases hat1 with h1 | ⟨g', h1, h2⟩
      · exact Or.inl (hv g (by rw [← h1]; exact hyg))
      · rw [h1] at hyg
        obtain rfl := Option.some.inj hyg
        exact Or.inr ⟨h2, Nat.lt_of_lt_of_le (hown.1.lt g' h1).2 hgr2.size⟩
  · intro s hs
    show _ = datum (idxs T.bits (T.rows ++ [b]) s)
    rw [idxs_snoc]
    by_cases e : stN T.bits b = s
    · subst e
      rw [if_pos rfl, Maps.atKey_put_same h.isMap ((int_keyed Try.underlying30).key (key30 _ hs)), hown.datum_pos hne]
      unfold datum
      rw [if_neg hne]
    · rw [if_neg e, List.append_nil, Maps.atKey_put_other (by intro e2; injection e2 with e3 e4; exact e (by omega)), h.hat s hs]
  · exact fun k hk => hk.elim (fun h1 => Or.inl (h.fg k h1)) Or.inr
  · intro k hk
    rcases hk with h1 | h1
    · exact Nat.lt_of_lt_of_le (h.lt k h1) hsz
    · exact h1.2
  · intro hk
    rcases hk with h1 | h1
    · exact h.gp h1
    · omega
  · intro hk
    rcases hk with h1 | h1
    · exact h.gm h1
    · omega
  · intro k hk hk2
    rcases hk2 with h1 | h1
    · exact h.rg k hk h1
    · have := h.lt k (h.fr k hk); omega
  · show (T.rows ++ [b]).length ≤ T.room
    rw [List.length_append]
    exact h.len
  · refine ((Far.of_grown hgr).mono (G := F) (fun k e => Or.inl (h.fg k (hv k e.symm)))).trans ((Far.of_grown hgr2).mono (fun k e => Or.inl (by obtain rfl := Option.some.inj e; exact h.fm)))
end Go.Proofs.Ytgfokmgbphhpjaa.St
