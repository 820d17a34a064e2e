/- (*Table).Find. Printed by gen/StFind.py. -/
import Derived.Test.YtgfokmgbphhpjaaStScan
namespace Go.Proofs.Ytgfokmgbphhpjaa.St
open Go.RowKit Go.Proofs.YtgfokmgbphhpjaaW.PrintWords Go.Proofs.YtgfokmgbphhpjaaW.PrintLast Go.Proofs.YtgfokmgbphhpjaaW.PrintMore Go.Proofs.Ytgfokmgbphhpjaa.PStampKeeps
open Go.Maps Go.WideElems Go.MapKept Go.ChangeMaps Go.ChangeShapes
set_option linter.unusedVariables false
set_option linter.unusedSimpArgs false
theorem zero82 (w : World) : (zeroValue 82).run Try.prog w = .ok (.slice none 0 0) w := by kernel_rfl
theorem key30 (s : Nat) (h : s < 18446744073709551616) : keyOf Try.prog 30 (.int .u64 (s : Int)) = some (.int .u64 (s : Int)) := keyOf_int_mk Try.underlying30 (by simp [Lit.wf, IntKind.min, IntKind.max, IntKind.signed, IntKind.bits]; omega)
/-- The group of a row, looked up. -/
theorem IsT.look {w : World} {pt : Nat} {T : Tab} {F : Nat → Prop} {bm : Nat} {vr : Value} {FR FG : Nat → Prop} {D : DataW Unit} (h : IsT w pt T F bm vr FR FG D) (b : List Int) :
    ∃ v, (Instr.lookup 79 (.map (some bm)) (.int .u64 (stN T.bits b)) false).run Try.prog w = .ok v w ∧ w.ownsInts (bm + 1) 3 .i64 v (T.grp b) ∧ (∀ k, v.ownBlock = some k → FG k) ∧ w.groupBack Try.prog 79 30 (bm + 1) 3 .i64 bm T.rows.length D (.int .u64 (stN T.bits b)) (.int .u64 (stN T.bits b)) v := by
  have hn : T.rows.length < maxLen := by have := h.len; have := h.room; simp only [maxLen]; omega
  obtain ⟨v, zs, h1, h2, h3, h4, h5⟩ := h.grp.at (int_keyed Try.underlying30) Try.underlying79 (zero82 w) hn (key30 _ (stN_lt T.bits b))
  rw [h.hat _ (stN_lt T.bits b)] at h2
  have e := datum_row h3 h2
  refine ⟨v, h1, by rw [e] at h3; exact h3, ?_, h5⟩
  obtain ⟨es, clock, hb, F', _⟩ := h.grp
  intro k hk
  rcases Maps.fit_look false (int_keyed Try.underlying30) Try.underlying79 (zero82 w) hb F' (key30 _ (stN_lt T.bits b)) with ⟨hr, _, _⟩ | ⟨e0, y, hm, _, hr, _⟩
  · rw [h1] at hr
    obtain rfl : v = .slice none 0 0 := by simpa using hr
    cases hk
  · rw [h1] at hr
    obtain rfl : v = e0.val := by simpa using hr
    exact Classical.not_not.1 (h.shun es clock hb e0 hm k hk)
theorem ints_slice {w : World} {base : Nat} {v : Value} {zs : List Int} (h : w.ownsInts base 3 .i64 v zs) : ∃ A c, v = .slice A zs.length c ∧ Kd.C (Kd.int .i64) w A zs.length zs ∧ zs.length ≤ c := by
  have hr : Kd.R (Kd.int .i64) 3 w base (fun _ => True) v zs := Kd.R_of_own h.1 (fun _ _ => trivial)
  obtain ⟨A, c, e, hc, hC⟩ := Kd.R_reads hr
  exact ⟨A, c, e, hC, hc⟩
theorem ints_block {w : World} {base : Nat} {ad : Addr} {n c : Nat} {zs : List Int} {G : Nat → Prop} (h : w.ownsInts base 3 .i64 (.slice (some ad) n c) zs) (hG : ∀ k, (Value.slice (some ad) n c).ownBlock = some k → G k) : G ad.block := by
  rcases h.1.2 with ⟨e, _⟩ | ⟨g, cap, cur, e, _⟩
  · cases e
  · simp only [Value.slice.injEq, Option.some.injEq] at e
    obtain ⟨rfl, _, _⟩ := e
    exact hG g rfl
theorem rows_block {α : Type} {d : Kd α} {e : Nat} {w : World} {base : Nat} {ok : Nat → Prop} {ad : Addr} {n c : Nat} {xs : List α} (h : d.R e w base ok (.slice (some ad) n c) xs) : ok ad.block := by
  obtain ⟨h0, inner, ho, hr⟩ := h
  rcases ho.2 with ⟨e, _⟩ | ⟨g, cap, cur, e, _⟩
  · cases e
  · simp only [Value.slice.injEq, Option.some.injEq] at e
    obtain ⟨rfl, _, _⟩ := e
    exact h0 g rfl
theorem row_at {q : IntKind} {w w1 : World} {A : Option Addr} {n : Nat} {xs : List Int} (h : Kd.C (Kd.int q) w A n xs) (hm : ∀ ad, A = some ad → w1.heap[ad.block]? = w.heap[ad.block]?) : Kd.C (Kd.int q) w1 A n xs := by
  refine ⟨h.1, h.2.1, fun hn => ?_⟩
  obtain ⟨ad, e, hc⟩ := h.2.2 hn
  refine ⟨ad, e, fun j p hj => ?_⟩
  obtain ⟨cs, h1, h2, h3⟩ := hc j p hj
  refine ⟨cs, h1, h2, fun i u hu => ?_⟩
  rw [← h3 i u hu]
  have hb : ∀ k, (ad.add k).block = ad.block := fun k => by unfold Addr.add; split <;> rfl
  exact World.cell?_of_block (by rw [hb]; exact hm ad e)
theorem row_at' {q : IntKind} {w w1 : World} {A : Option Addr} {n : Nat} {xs : List Int} (h : Kd.C (Kd.int q) w A n xs) (hm : xs ≠ [] → ∀ ad, A = some ad → w1.heap[ad.block]? = w.heap[ad.block]?) : Kd.C (Kd.int q) w1 A n xs := by
  by_cases e : xs = []
  · subst e
    exact ⟨h.1, h.2.1, fun hn => absurd hn (by have := h.1; simp at this; omega)⟩
  · exact row_at h (hm e)
theorem IsT.setLooked {w : World} {pt : Nat} {T : Tab} {F : Nat → Prop} {bm : Nat} {vr : Value} {FR FG : Nat → Prop} {D : DataW Unit} (h : IsT w pt T F bm vr FR FG D) (n : Nat) : IsT (w.setCell ⟨pt, 4, none⟩ (.int .i64 n)) pt { T with looked := n } F bm vr FR FG D :=
  IsT.box h (fun k hk _ => heap_setCell_other _ _ _ _ hk) (by rw [setCell_size]; exact Nat.le_refl _) ((blk_set h.blk 4 _).trans rfl) rfl rfl rfl
theorem IsT.setSame {w : World} {pt : Nat} {T : Tab} {F : Nat → Prop} {bm : Nat} {vr : Value} {FR FG : Nat → Prop} {D : DataW Unit} (h : IsT w pt T F bm vr FR FG D) (n : Nat) : IsT (w.setCell ⟨pt, 5, none⟩ (.int .i64 n)) pt { T with same := n } F bm vr FR FG D :=
  IsT.box h (fun k hk _ => heap_setCell_other _ _ _ _ hk) (by rw [setCell_size]; exact Nat.le_refl _) ((blk_set h.blk 5 _).trans rfl) rfl rfl rfl
theorem scan_drop (rows : List (List Int)) (b G : List Int) (k : Nat) (hk : k < G.length) : scan rows b (G.drop k) = if rows.getD (rd G k).toNat [] = b then (1, some (rd G k)) else ((scan rows b (G.drop (k + 1))).1 + 1, (scan rows b (G.drop (k + 1))).2) := by
  rw [List.drop_eq_getElem_cons hk, rd_nat G k hk]
  rfl
set_option maxHeartbeats 4000000 in
set_option maxRecDepth 1000000 in
theorem find_calls (w : World) {pt : Nat} {T : Tab} {F : Nat → Prop} {bm : Nat} {vr : Value} {FR FG : Nat → Prop} {D : DataW Unit} (h : IsT w pt T F bm vr FR FG D) (A : Option Addr) (c : Nat) (b : List Int) (hC : Kd.C (Kd.int .u8) w A b.length b) (hc : b.length ≤ c) (hl : b.length ≤ 140737488351232) (hr : ∀ x ∈ b, 0 ≤ x ∧ x < 256) (hA : b ≠ [] → ∀ ad, A = some ad → ad.block ≠ pt) (hlk : T.looked < 4611686018427387904) (hsm : T.same ≤ T.looked) :
    Calls Try.prog 20 #[ptr pt, .slice A b.length c] w fun e w' => e = .returned (.tuple #[.int .i64 ((T.find b).getD 0), .bool (T.find b).isSome]) ∧ IsT w' pt (T.after b) F bm vr FR FG D ∧ Far (fun k => k = pt) w w' ∧ w'.heap.size = w.heap.size := by
  have HI := Aside0.mk h
  have HC := Aside0.mk hC
  have HCC := Aside0.mk hc
  have HL := Aside0.mk hl
  have HR := Aside0.mk hr
  have HA := Aside0.mk hA
  have HLK := Aside0.mk hlk
  have HSM := Aside0.mk hsm
  clear h hC hc hl hr hA hlk hsm
  obtain ⟨A2, c2, rfl⟩ := Kd.R_slice HI.out.rows
  go_enter Try.func20, Try.ntmps20
  go_wp2
  refine start_ (n := 10) (S := fun w' => w'.heap[pt]? = some (.cells (tabCells T (.slice A2 T.rows.length c2) bm) 81 (0, 0))) (ds := []) #[false, false, false, false, false, false, false, false, false, false] (by kernel_rfl) rfl rfl HI.out.blk (fun hHeld => ?_)
  have hI1 := IsT.move HI.out (w' := w.drew) (fun _ _ => rfl) (Nat.le_refl _)
  have hF1 : Far (fun k => k = pt) w w.drew := (Far.refl _ w).drew
  have hC1 := Kd.C_drew HC.out
  have hS1 : w.drew.heap.size = w.heap.size := rfl
  generalize w.drew = W at hI1 hF1 hC1 hS1 hHeld ⊢
  have HI1 := Aside0.mk hI1
  have HF1 := Aside0.mk hF1
  have HC1 := Aside0.mk hC1
  have HS1 := Aside0.mk hS1
  clear hI1 hF1 hC1 hS1
  refine pure_ (i := 0) (N := (some 8)) (v := ?_) (a' := ?_) #[true, false, false, false, false, false, false, false, false, false] rfl rfl (by kernel_rfl) (fun _ _ _ h => h) (Or.inl ⟨by rfl, ?_⟩) ?_ ?_
  rotate_left
  · intro w'
    go_simp
    with_reducible rfl
  rotate_left
  · simp only [Act.put, List.setIfInBounds_toArray, List.set_cons_zero, List.set_cons_succ, i64_w, i32_w]
    rfl
  refine pure_ (i := 1) (N := (some 9)) (v := ?_) (a' := ?_) #[true, true, false, false, false, false, false, false, false, false] rfl rfl (by kernel_rfl) (fun _ _ _ h => h) (Or.inl ⟨by rfl, ?_⟩) ?_ ?_
  rotate_left
  · intro w'
    go_simp
    with_reducible rfl
  rotate_left
  · simp only [Act.put, List.setIfInBounds_toArray, List.set_cons_zero, List.set_cons_succ, i64_w, i32_w]
    rfl
  refine pure_ (i := 2) (N := (some 10)) (v := ?_) (a' := ?_) #[true, true, true, false, false, false, false, false, false, false] rfl rfl (by kernel_rfl) (fun _ _ _ h => h) (Or.inl ⟨by rfl, ?_⟩) ?_ ?_
  rotate_left
  · intro w'
    go_simp
    with_reducible rfl
  rotate_left
  · simp only [Act.put, List.setIfInBounds_toArray, List.set_cons_zero, List.set_cons_succ, i64_w, i32_w]
    rfl
  refine take_ (i := 3) (N := (some 11)) (v := ?_) (a' := ?_) #[true, true, true, true, false, false, false, false, false, false] rfl rfl (by kernel_rfl) (fun _ _ _ h => h) (Or.inl ⟨by rfl, ?_⟩) hHeld ?_ ?_
  rotate_left
  · rintro w' s0
    have t3 : w'.cell? ⟨pt, 3, none⟩ = some (.map (some bm)) := (blk_cell s0 3).trans rfl
    go_simp
    with_reducible rfl
  rotate_left
  · simp only [Act.put, List.setIfInBounds_toArray, List.set_cons_zero, List.set_cons_succ, i64_w, i32_w]
    rfl
  refine pure_ (i := 4) (N := (some 12)) (v := ?_) (a' := ?_) #[true, true, true, true, true, false, false, false, false, false] rfl rfl (by kernel_rfl) (fun _ _ _ h => h) (Or.inl ⟨by rfl, ?_⟩) ?_ ?_
  rotate_left
  · intro w'
    go_simp
    with_reducible rfl
  rotate_left
  · simp only [Act.put, List.setIfInBounds_toArray, List.set_cons_zero, List.set_cons_succ, i64_w, i32_w]
    rfl
  refine pure_ (i := 5) (N := (some 13)) (v := ?_) (a' := ?_) #[true, true, true, true, true, true, false, false, false, false] rfl rfl (by kernel_rfl) (fun _ _ _ h => h) (Or.inl ⟨by rfl, ?_⟩) ?_ ?_
  rotate_left
  · intro w'
    go_simp
    with_reducible rfl
  rotate_left
  · simp only [Act.put, List.setIfInBounds_toArray, List.set_cons_zero, List.set_cons_succ, i64_w, i32_w]
    rfl
  refine pure_ (i := 9) (N := (some 17)) (v := ?_) (a' := ?_) #[true, true, true, true, true, true, false, false, false, true] rfl rfl (by kernel_rfl) (fun _ _ _ h => h) (Or.inl ⟨by rfl, ?_⟩) ?_ ?_
  rotate_left
  · intro w'
    go_simp
    with_reducible rfl
  rotate_left
  · simp only [Act.put, List.setIfInBounds_toArray, List.set_cons_zero, List.set_cons_succ, i64_w, i32_w]
    rfl
  refine one_ (i := 6) (N := (some 14)) #[true, true, true, true, true, true, true, false, false, true] rfl rfl (by kernel_rfl) (by decide) (fun K hK => ?_)
  refine goes_ Try.func46 (by kernel_rfl) rfl #[ptr pt, .slice A b.length c] (by rfl) rfl rfl (by simp only [List.map_toArray, List.map_cons, List.map_nil]; rfl) ?_
  refine (stamp_calls _ pt T.bits HI1.out.bits A c b HC1.out HCC.out HL.out HR.out ((blk_cell hHeld 0).trans rfl)).mono ?_
  rintro e w1 ⟨rfl, hd⟩
  refine ⟨_, rfl, ?_⟩
  obtain ⟨nd, rfl⟩ := hd.out
  have hI1 := IsT.move HI1.out (w' := W.drewN nd) (fun _ _ => rfl) (Nat.le_refl _)
  have hF1 := HF1.out.drewN nd
  have hC1 := Kd.C_drewN HC1.out nd
  have hS1 : (W.drewN nd).heap.size = w.heap.size := HS1.out
  clear HI1 HF1 HC1 HS1
  generalize W.drewN nd = W1 at hI1 hF1 hC1 hS1 ⊢
  have HS1 := Aside0.mk hS1
  clear hS1
  have HI1 := Aside0.mk hI1
  have HF1 := Aside0.mk hF1
  have HC1 := Aside0.mk hC1
  clear hI1 hF1 hC1 hd
  refine hK.out _ _ HI1.out.blk (fun hHeld => ?_)
  clear hK K
  refine norm_ (a' := ?_) ?_ ?_
  rotate_left
  · show Act.put _ (some 14) _ = _
    simp only [Act.put, List.setIfInBounds_toArray, List.set_cons_zero, List.set_cons_succ, i64_w, i32_w]
    rfl
  refine one_ (i := 7) (N := (some 15)) #[true, true, true, true, true, true, true, true, false, true] rfl rfl (by kernel_rfl) (by decide) (fun K hK => ?_)
  obtain ⟨v, hlk, hown, hfg, -⟩ := IsT.look HI1.out b
  have hown0 := hown
  obtain ⟨vA, vc, rfl, hvC, hvc⟩ := ints_slice hown
  have HV := Aside0.mk hvC
  have HVC := Aside0.mk hvc
  have HVF := Aside0.mk (show ∀ ad, vA = some ad → FG ad.block from fun ad e => by subst e; exact ints_block hown0 hfg)
  clear hown hvC hvc
  refine value_ (w1 := ?_) (v := ?_) (by rfl) rfl ?_ ?_
  rotate_left 2
  · go_simp
    constructor
    · rfl
    · rfl
  refine hK.out _ _ hHeld (fun hHeld => ?_)
  clear hK K
  refine norm_ (a' := ?_) ?_ ?_
  rotate_left
  · show Act.put _ (some 15) _ = _
    simp only [Act.put, List.setIfInBounds_toArray, List.set_cons_zero, List.set_cons_succ, i64_w, i32_w]
    rfl
  refine pure_ (i := 8) (N := (some 16)) (v := ?_) (a' := ?_) #[true, true, true, true, true, true, true, true, true, true] rfl rfl (by kernel_rfl) (fun _ _ _ h => h) (Or.inl ⟨by rfl, ?_⟩) ?_ ?_
  rotate_left
  · intro w'
    go_simp
    with_reducible rfl
  rotate_left
  · simp only [Act.put, List.setIfInBounds_toArray, List.set_cons_zero, List.set_cons_succ, i64_w, i32_w]
    rfl
  refine done_ (by kernel_rfl) ?_
  go_wp2
  have HVA := Aside0.mk (show ∀ ad, vA = some ad → ad.block ≠ pt from fun ad e => by
    intro e2
    exact HI1.out.gp (e2 ▸ HVF.out ad e))
  have HGD := Aside0.mk (show (T.find b) = (scan T.rows b (T.grp b)).2 from rfl)
  have HGA := Aside0.mk (show T.after b = { T with looked := T.looked + (scan T.rows b (T.grp b)).1, same := T.same + (if (T.find b).isSome then 1 else 0) } from rfl)
  have HGM := Aside0.mk (show ∀ x ∈ T.grp b, 0 ≤ x ∧ x < T.rows.length from fun x hx => idxs_mem hx)
  have HGL := Aside0.mk (show (T.grp b).length ≤ 20000 from Nat.le_trans (idxs_length _ _ _) (Nat.le_trans HI1.out.len HI1.out.room))
  obtain ⟨G, hG⟩ : ∃ G, T.grp b = G := ⟨_, rfl⟩
  rw [hG] at HV HVC HGD HGA HGM HGL ⊢
  clear hlk hfg hHeld hG HI HC
  go_loopw [17] (fun i wr => ∃ k : Nat, i = .int .i64 k ∧ k ≤ G.length ∧ IsT wr pt { T with looked := T.looked + k } F bm (.slice A2 T.rows.length c2) FR FG D ∧ Far (fun k => k = pt) w wr ∧ wr.heap.size = w.heap.size ∧ Kd.C (Kd.int .i64) wr vA G.length G ∧ Kd.C (Kd.int .u8) wr A b.length b ∧ (scan T.rows b G).1 = k + (scan T.rows b (G.drop k)).1 ∧ (scan T.rows b G).2 = (scan T.rows b (G.drop k)).2) (fun i _ => G.length - (intOf i).toNat)
  case atStart => exact ⟨0, rfl, Nat.zero_le _, HI1.out, HF1.out, HS1.out, HV.out, HC1.out, by simp, by simp⟩
  case round =>
    obtain ⟨k, rfl, hk, hI, hF, hS, hV, hB, hs1, hs2⟩ := hrel
    have HI := Aside0.mk hI
    have HF := Aside0.mk hF
    have HS := Aside0.mk hS
    have HV2 := Aside0.mk hV
    have HB := Aside0.mk hB
    have HX1 := Aside0.mk hs1
    have HX2 := Aside0.mk hs2
    clear hI hF hS hV hB hs1 hs2
    by_cases hlt : k < G.length
    · have p0 : decide ((k : Int) < (G.length : Int)) = true := decide_eq_true (by omega)
      have p1 := eq_true (show (k : Int) < (G.length : Int) by omega)
      obtain ⟨ad, ead, hx⟩ := Kd.at_int HV2.out k (Int.natCast_nonneg _) (by omega)
      subst ead
      rw [Int.toNat_natCast] at hx
      have HSD := Aside0.mk (scan_drop T.rows b G k hlt)
      obtain ⟨g0, g1⟩ := HGM.out (rd G k) (by rw [rd_nat G k hlt]; exact List.getElem_mem hlt)
      have HN0 := Aside0.mk g0
      have HN1 := Aside0.mk g1
      obtain ⟨n, hn⟩ : ∃ n, rd G k = n := ⟨_, rfl⟩
      rw [hn] at hx HSD HN0 HN1
      clear g0 g1 hn
      have n0 := HN0.out
      have n1 := HN1.out
      have k2 : wr.cell? ⟨pt, 2, none⟩ = some (.slice A2 T.rows.length c2) := (blk_cell HI.out.blk 2).trans rfl
      obtain ⟨lk, hlk⟩ : ∃ lk : Int, ((T.looked + k : Nat) : Int) = lk := ⟨_, rfl⟩
      have c4 : wr.cell? ⟨pt, 4, none⟩ = some (.int .i64 lk) := by rw [← hlk]; exact (blk_cell HI.out.blk 4).trans rfl
      have f4 : wr.frozen? ⟨pt, 4, none⟩ = false := blk_frozen HI.out.blk 4
      obtain ⟨lk1, hlk1⟩ : ∃ lk1 : Int, lk + 1 = lk1 := ⟨_, rfl⟩
      have hW0 : wrap64 (lk + 1) = lk1 := by
        have := HLK.out
        have := HGL.out
        rw [Base.wrap64_id (by omega) (by omega), hlk1]
      have hW1 : IntKind.i64.wrap (lk + 1) = lk1 := (Base.i64w _).trans hW0
      have HLK1 := Aside0.mk (show lk1 = ((T.looked + (k + 1) : Nat) : Int) from by omega)
      have hI2 : IsT (wr.setCell ⟨pt, 4, none⟩ (.int .i64 lk1)) pt { T with looked := T.looked + (k + 1) } F bm (.slice A2 T.rows.length c2) FR FG D := by
        rw [HLK1.out]; exact IsT.setLooked HI.out (T.looked + (k + 1))
      have hF2 : Far (fun k => k = pt) w (wr.setCell ⟨pt, 4, none⟩ (.int .i64 lk1)) := HF.out.set rfl _
      have hS2 : (wr.setCell ⟨pt, 4, none⟩ (.int .i64 lk1)).heap.size = w.heap.size := by rw [setCell_size]; exact HS.out
      have hV2 : Kd.C (Kd.int .i64) (wr.setCell ⟨pt, 4, none⟩ (.int .i64 lk1)) (some ad) G.length G := row_at HV2.out (fun ad' e => heap_setCell_other _ _ _ _ (HVA.out ad' e))
      have hB2 : Kd.C (Kd.int .u8) (wr.setCell ⟨pt, 4, none⟩ (.int .i64 lk1)) A b.length b := row_at' HB.out (fun hne ad' e => heap_setCell_other _ _ _ _ (HA.out hne ad' e))
      obtain ⟨ad2, A0, c0, e2, hcell2, hle, hC0⟩ := at_L6 (Kd.R_reads' hI2.rows).2.2 n HN0.out HN1.out
      have HNP := Aside0.mk (show ad2.block ≠ pt from fun e => hI2.rp (e ▸ (by subst e2; exact rows_block hI2.rows)))
      have HBY := Aside0.mk (HI.out.byt (rd_L6 T.rows n) (by unfold rd_L6; rw [List.getD_eq_getElem?_getD, List.getElem?_eq_getElem (by have := HN0.out; have := HN1.out; omega)]; exact List.getElem_mem _))
      subst e2
      clear HI HF HS HV2 HB
      have HI := Aside0.mk hI2
      have HF := Aside0.mk hF2
      have HS := Aside0.mk hS2
      have HV2 := Aside0.mk hV2
      have HB := Aside0.mk hB2
      have HQ := Aside0.mk (show rd_L6 T.rows n = T.rows.getD n.toNat [] from rfl)
      obtain ⟨row, hrow⟩ : ∃ row, rd_L6 T.rows n = row := ⟨_, rfl⟩
      rw [hrow] at hcell2 hle hC0 HBY HQ
      clear hI2 hF2 hS2 hV2 hB2 hrow
      clear hlk hlk1
      have hne := HNP.out
      have hne2 : pt ≠ ad2.block := fun e => HNP.out e.symm
      have HLE := Aside0.mk hle
      have HC0 := Aside0.mk hC0
      clear hle hC0
      go_wp2_with fail
      refine (bytes_Equal.calls A0 c0 row A c b (decide (row = b)) _ HC0.out HLE.out HB.out HCC.out (equal_tells row b HBY.out.2 HR.out)).mono ?_
      rintro e w3 ⟨rfl, hd⟩
      obtain ⟨nd3, rfl⟩ := hd.out
      have HI3 := Aside0.mk (IsT.move HI.out (w' := World.drewN (wr.setCell ⟨pt, 4, none⟩ (.int .i64 lk1)) nd3) (fun _ _ => rfl) (Nat.le_refl _))
      have HF3 := Aside0.mk (HF.out.drewN nd3)
      have HS3 := Aside0.mk (show (World.drewN (wr.setCell ⟨pt, 4, none⟩ (.int .i64 lk1)) nd3).heap.size = w.heap.size from HS.out)
      have HV3 := Aside0.mk (Kd.C_drewN HV2.out nd3)
      have HB3 := Aside0.mk (Kd.C_drewN HB.out nd3)
      clear HI HF HS HV2 HB hd k2 c4 f4 hcell2 hx HC0
      generalize World.drewN (wr.setCell ⟨pt, 4, none⟩ (.int .i64 lk1)) nd3 = W3 at HI3 HF3 HS3 HV3 HB3 ⊢
      by_cases heq : row = b
      · have q0 : decide (row = b) = true := decide_eq_true heq
        rw [q0]
        have HE := Aside0.mk (show T.after b = { T with looked := T.looked + (k + 1), same := T.same + 1 } from by
          rw [HGA.out, HGD.out, HX1.out, HX2.out, HSD.out, if_pos (HQ.out.symm.trans heq)]; rfl)
        have HE2 := Aside0.mk (show T.find b = some n from by rw [HGD.out, HX2.out, HSD.out, if_pos (HQ.out.symm.trans heq)])
        obtain ⟨sm, hsm⟩ : ∃ sm : Int, (T.same : Int) = sm := ⟨_, rfl⟩
        have c5 : W3.cell? ⟨pt, 5, none⟩ = some (.int .i64 sm) := by rw [← hsm]; exact (blk_cell HI3.out.blk 5).trans rfl
        have f5 : W3.frozen? ⟨pt, 5, none⟩ = false := blk_frozen HI3.out.blk 5
        obtain ⟨sm1, hsm1⟩ : ∃ sm1 : Int, sm + 1 = sm1 := ⟨_, rfl⟩
        have hV0 : wrap64 (sm + 1) = sm1 := by
          have := HLK.out
          have := HSM.out
          rw [Base.wrap64_id (by omega) (by omega), hsm1]
        have hV1 : IntKind.i64.wrap (sm + 1) = sm1 := (Base.i64w _).trans hV0
        have HSM1 := Aside0.mk (show sm1 = ((T.same + 1 : Nat) : Int) from by omega)
        clear hsm hsm1 heq
        go_wp2
        go_ret2
        refine ⟨by rw [HE2.out]; rfl, ?_, HF3.out.set rfl _, by rw [setCell_size]; exact HS3.out⟩
        rw [HE.out, HSM1.out]
        exact IsT.setSame HI3.out (T.same + 1)
      · have q0 : decide (row = b) = false := decide_eq_false heq
        rw [q0]
        have HSD2 := Aside0.mk (show scan T.rows b (G.drop k) = ((scan T.rows b (G.drop (k + 1))).1 + 1, (scan T.rows b (G.drop (k + 1))).2) from by rw [HSD.out, if_neg (fun e => heq (HQ.out.trans e))])
        clear heq
        have hkb : G.length ≤ 20000 := HGL.out
        go_wp2
        go_roundw
        case rel => exact ⟨k + 1, by go_num, by omega, HI3.out, HF3.out, HS3.out, HV3.out, HB3.out, by rw [HX1.out, HSD2.out]; omega, by rw [HX2.out, HSD2.out]⟩
        case measure => simp [intOf]; omega
    · have p0 : decide ((k : Int) < (G.length : Int)) = false := decide_eq_false (by omega)
      have hkn : k = G.length := by omega
      subst hkn
      have HE := Aside0.mk (show T.after b = { T with looked := T.looked + G.length } from by
        rw [HGA.out, HGD.out, HX1.out, HX2.out, List.drop_length]; rfl)
      have HE2 := Aside0.mk (show T.find b = none from by rw [HGD.out, HX2.out, List.drop_length]; rfl)
      go_wp2
      go_ret2
      refine ⟨by rw [HE2.out]; rfl, by rw [HE.out]; exact HI.out, HF.out, HS.out⟩
end Go.Proofs.Ytgfokmgbphhpjaa.St
