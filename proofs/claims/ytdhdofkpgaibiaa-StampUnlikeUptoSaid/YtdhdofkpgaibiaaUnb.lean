/- The table's Find and Put; the chapter's example. -/
import Derived.Test.YtdhdofkpgaibiaaUna
import Derived.Lib.SlBytesConst
namespace Go.Proofs.Ytdhdofkpgaibiaa.St
open Go.RowKit Go.Proofs.YtdhdofkpgaibiaaW.PrintWords Go.Proofs.YtdhdofkpgaibiaaW.PrintLast Go.Proofs.YtdhdofkpgaibiaaW.PrintMore Go.Proofs.Ytdhdofkpgaibiaa.PStampTells
open Go.Maps Go.WideElems Go.MapKept Go.ChangeMaps Go.ChangeShapes
set_option linter.unusedVariables false
set_option linter.unusedSimpArgs false
theorem zero82 (w : World) : (zeroValue 101).run Try.prog w = .ok (.slice none 0 0) w := by kernel_rfl
theorem key30 (s : Nat) (h : s < 18446744073709551616) : keyOf Try.prog 30 (.int .u64 (s : Int)) = some (.int .u64 (s : Int)) := keyOf_int_mk Try.underlying30 (by simp [Lit.wf, IntKind.min, IntKind.max, IntKind.signed, IntKind.bits]; omega)
/-- The group of a row, looked up. -/
theorem IsT.look {w : World} {pt : Nat} {T : Tab} {F : Nat → Prop} {bm : Nat} {vr : Value} {FR FG : Nat → Prop} {D : DataW Unit} (h : IsT w pt T F bm vr FR FG D) (b : List Int) :
    ∃ v, (Instr.lookup 98 (.map (some bm)) (.int .u64 (stN T.bits b)) false).run Try.prog w = .ok v w ∧ w.ownsInts (bm + 1) 3 .i64 v (T.grp b) ∧ (∀ k, v.ownBlock = some k → FG k) ∧ w.groupBack Try.prog 98 30 (bm + 1) 3 .i64 bm T.rows.length D (.int .u64 (stN T.bits b)) (.int .u64 (stN T.bits b)) v := by
  have hn : T.rows.length < maxLen := by have := h.len; have := h.room; simp only [maxLen]; omega
  obtain ⟨v, zs, h1, h2, h3, h4, h5⟩ := h.grp.at (int_keyed Try.underlying30) Try.underlying98 (zero82 w) hn (key30 _ (stN_lt T.bits b))
  rw [h.hat _ (stN_lt T.bits b)] at h2
  have e := datum_row h3 h2
  refine ⟨v, h1, by rw [e] at h3; exact h3, ?_, h5⟩
  obtain ⟨es, clock, hb, F', _⟩ := h.grp
  intro k hk
  rcases Maps.fit_look false (int_keyed Try.underlying30) Try.underlying98 (zero82 w) hb F' (key30 _ (stN_lt T.bits b)) with ⟨hr, _, _⟩ | ⟨e0, y, hm, _, hr, _⟩
  · rw [h1] at hr
    obtain rfl : v = .slice none 0 0 := by simpa using hr
    cases hk
  · rw [h1] at hr
    obtain rfl : v = e0.val := by simpa using hr
    exact Classical.not_not.1 (h.shun es clock hb e0 hm k hk)
theorem ints_slice {w : World} {base : Nat} {v : Value} {zs : List Int} (h : w.ownsInts base 3 .i64 v zs) : ∃ A c, v = .slice A zs.length c ∧ Kd.C (Kd.int .i64) w A zs.length zs ∧ zs.length ≤ c := by
  have hr : Kd.R (Kd.int .i64) 3 w base (fun _ => True) v zs := Kd.R_of_own h.1 (fun _ _ => trivial)
  obtain ⟨A, c, e, hc, hC⟩ := Kd.R_reads hr
  exact ⟨A, c, e, hC, hc⟩
theorem ints_block {w : World} {base : Nat} {ad : Addr} {n c : Nat} {zs : List Int} {G : Nat → Prop} (h : w.ownsInts base 3 .i64 (.slice (some ad) n c) zs) (hG : ∀ k, (Value.slice (some ad) n c).ownBlock = some k → G k) : G ad.block := by
  rcases h.1.2 with ⟨e, _⟩ | ⟨g, cap, cur, e, _⟩
  · cases e
  · simp only [Value.slice.injEq, Option.some.injEq] at e
    obtain ⟨rfl, _, _⟩ := e
    exact hG g rfl
theorem rows_block {α : Type} {d : Kd α} {e : Nat} {w : World} {base : Nat} {ok : Nat → Prop} {ad : Addr} {n c : Nat} {xs : List α} (h : d.R e w base ok (.slice (some ad) n c) xs) : ok ad.block := by
  obtain ⟨h0, inner, ho, hr⟩ := h
  rcases ho.2 with ⟨e, _⟩ | ⟨g, cap, cur, e, _⟩
  · cases e
  · simp only [Value.slice.injEq, Option.some.injEq] at e
    obtain ⟨rfl, _, _⟩ := e
    exact h0 g rfl
theorem row_at {q : IntKind} {w w1 : World} {A : Option Addr} {n : Nat} {xs : List Int} (h : Kd.C (Kd.int q) w A n xs) (hm : ∀ ad, A = some ad → w1.heap[ad.block]? = w.heap[ad.block]?) : Kd.C (Kd.int q) w1 A n xs := by
  refine ⟨h.1, h.2.1, fun hn => ?_⟩
  obtain ⟨ad, e, hc⟩ := h.2.2 hn
  refine ⟨ad, e, fun j p hj => ?_⟩
  obtain ⟨cs, h1, h2, h3⟩ := hc j p hj
  refine ⟨cs, h1, h2, fun i u hu => ?_⟩
  rw [← h3 i u hu]
  have hb : ∀ k, (ad.add k).block = ad.block := fun k => by unfold Addr.add; split <;> rfl
  exact World.cell?_of_block (by rw [hb]; exact hm ad e)
theorem row_at' {q : IntKind} {w w1 : World} {A : Option Addr} {n : Nat} {xs : List Int} (h : Kd.C (Kd.int q) w A n xs) (hm : xs ≠ [] → ∀ ad, A = some ad → w1.heap[ad.block]? = w.heap[ad.block]?) : Kd.C (Kd.int q) w1 A n xs := by
  by_cases e : xs = []
  · subst e
    exact ⟨h.1, h.2.1, fun hn => absurd hn (by have := h.1; simp at this; omega)⟩
  · exact row_at h (hm e)
theorem IsT.setLooked {w : World} {pt : Nat} {T : Tab} {F : Nat → Prop} {bm : Nat} {vr : Value} {FR FG : Nat → Prop} {D : DataW Unit} (h : IsT w pt T F bm vr FR FG D) (n : Nat) : IsT (w.setCell ⟨pt, 4, none⟩ (.int .i64 n)) pt { T with looked := n } F bm vr FR FG D :=
  IsT.box h (fun k hk _ => heap_setCell_other _ _ _ _ hk) (by rw [setCell_size]; exact Nat.le_refl _) ((blk_set h.blk 4 _).trans rfl) rfl rfl rfl
theorem IsT.setSame {w : World} {pt : Nat} {T : Tab} {F : Nat → Prop} {bm : Nat} {vr : Value} {FR FG : Nat → Prop} {D : DataW Unit} (h : IsT w pt T F bm vr FR FG D) (n : Nat) : IsT (w.setCell ⟨pt, 5, none⟩ (.int .i64 n)) pt { T with same := n } F bm vr FR FG D :=
  IsT.box h (fun k hk _ => heap_setCell_other _ _ _ _ hk) (by rw [setCell_size]; exact Nat.le_refl _) ((blk_set h.blk 5 _).trans rfl) rfl rfl rfl
theorem scan_drop (rows : List (List Int)) (b G : List Int) (k : Nat) (hk : k < G.length) : scan rows b (G.drop k) = if rows.getD (rd G k).toNat [] = b then (1, some (rd G k)) else ((scan rows b (G.drop (k + 1))).1 + 1, (scan rows b (G.drop (k + 1))).2) := by
  rw [List.drop_eq_getElem_cons hk, rd_nat G k hk]
  rfl
set_option maxHeartbeats 4000000 in
set_option maxRecDepth 1000000 in
theorem find_calls (w : World) {pt : Nat} {T : Tab} {F : Nat → Prop} {bm : Nat} {vr : Value} {FR FG : Nat → Prop} {D : DataW Unit} (h : IsT w pt T F bm vr FR FG D) (A : Option Addr) (c : Nat) (b : List Int) (hC : Kd.C (Kd.int .u8) w A b.length b) (hc : b.length ≤ c) (hl : b.length ≤ 140737488351232) (hr : ∀ x ∈ b, 0 ≤ x ∧ x < 256) (hA : b ≠ [] → ∀ ad, A = some ad → ad.block ≠ pt) (hlk : T.looked < 4611686018427387904) (hsm : T.same ≤ T.looked) :
    Calls Try.prog 24 #[ptr pt, .slice A b.length c] w fun e w' => e = .returned (.tuple #[.int .i64 ((T.find b).getD 0), .bool (T.find b).isSome]) ∧ IsT w' pt (T.after b) F bm vr FR FG D ∧ Far (fun k => k = pt) w w' ∧ w'.heap.size = w.heap.size := by
  have HI := Aside0.mk h
  have HC := Aside0.mk hC
  have HCC := Aside0.mk hc
  have HL := Aside0.mk hl
  have HR := Aside0.mk hr
  have HA := Aside0.mk hA
  have HLK := Aside0.mk hlk
  have HSM := Aside0.mk hsm
  clear h hC hc hl hr hA hlk hsm
  obtain ⟨A2, c2, rfl⟩ := Kd.R_slice HI.out.rows
  go_enter Try.func24, Try.ntmps24
  go_wp2
  refine start_ (n := 10) (S := fun w' => w'.heap[pt]? = some (.cells (tabCells T (.slice A2 T.rows.length c2) bm) 100 (0, 0))) (ds := []) #[false, false, false, false, false, false, false, false, false, false] (by kernel_rfl) rfl rfl HI.out.blk (fun hHeld => ?_)
  have hI1 := IsT.move HI.out (w' := w.drew) (fun _ _ => rfl) (Nat.le_refl _)
  have hF1 : Far (fun k => k = pt) w w.drew := (Far.refl _ w).drew
  have hC1 := Kd.C_drew HC.out
  have hS1 : w.drew.heap.size = w.heap.size := rfl
  generalize w.drew = W at hI1 hF1 hC1 hS1 hHeld ⊢
  have HI1 := Aside0.mk hI1
  have HF1 := Aside0.mk hF1
  have HC1 := Aside0.mk hC1
  have HS1 := Aside0.mk hS1
  clear hI1 hF1 hC1 hS1
  refine pure_ (i := 0) (N := (some 8)) (v := ?_) (a' := ?_) #[true, false, false, false, false, false, false, false, false, false] rfl rfl (by kernel_rfl) (fun _ _ _ h => h) (Or.inl ⟨by rfl, ?_⟩) ?_ ?_
  rotate_left
  · intro w'
    go_simp
    with_reducible rfl
  rotate_left
  · simp only [Act.put, List.setIfInBounds_toArray, List.set_cons_zero, List.set_cons_succ, i64_w, i32_w]
    rfl
  refine pure_ (i := 1) (N := (some 9)) (v := ?_) (a' := ?_) #[true, true, false, false, false, false, false, false, false, false] rfl rfl (by kernel_rfl) (fun _ _ _ h => h) (Or.inl ⟨by rfl, ?_⟩) ?_ ?_
  rotate_left
  · intro w'
    go_simp
    with_reducible rfl
  rotate_left
  · simp only [Act.put, List.setIfInBounds_toArray, List.set_cons_zero, List.set_cons_succ, i64_w, i32_w]
    rfl
  refine pure_ (i := 2) (N := (some 10)) (v := ?_) (a' := ?_) #[true, true, true, false, false, false, false, false, false, false] rfl rfl (by kernel_rfl) (fun _ _ _ h => h) (Or.inl ⟨by rfl, ?_⟩) ?_ ?_
  rotate_left
  · intro w'
    go_simp
    with_reducible rfl
  rotate_left
  · simp only [Act.put, List.setIfInBounds_toArray, List.set_cons_zero, List.set_cons_succ, i64_w, i32_w]
    rfl
  refine take_ (i := 3) (N := (some 11)) (v := ?_) (a' := ?_) #[true, true, true, true, false, false, false, false, false, false] rfl rfl (by kernel_rfl) (fun _ _ _ h => h) (Or.inl ⟨by rfl, ?_⟩) hHeld ?_ ?_
  rotate_left
  · rintro w' s0
    have t3 : w'.cell? ⟨pt, 3, none⟩ = some (.map (some bm)) := (blk_cell s0 3).trans rfl
    go_simp
    with_reducible rfl
  rotate_left
  · simp only [Act.put, List.setIfInBounds_toArray, List.set_cons_zero, List.set_cons_succ, i64_w, i32_w]
    rfl
  refine pure_ (i := 4) (N := (some 12)) (v := ?_) (a' := ?_) #[true, true, true, true, true, false, false, false, false, false] rfl rfl (by kernel_rfl) (fun _ _ _ h => h) (Or.inl ⟨by rfl, ?_⟩) ?_ ?_
  rotate_left
  · intro w'
    go_simp
    with_reducible rfl
  rotate_left
  · simp only [Act.put, List.setIfInBounds_toArray, List.set_cons_zero, List.set_cons_succ, i64_w, i32_w]
    rfl
  refine pure_ (i := 5) (N := (some 13)) (v := ?_) (a' := ?_) #[true, true, true, true, true, true, false, false, false, false] rfl rfl (by kernel_rfl) (fun _ _ _ h => h) (Or.inl ⟨by rfl, ?_⟩) ?_ ?_
  rotate_left
  · intro w'
    go_simp
    with_reducible rfl
  rotate_left
  · simp only [Act.put, List.setIfInBounds_toArray, List.set_cons_zero, List.set_cons_succ, i64_w, i32_w]
    rfl
  refine pure_ (i := 9) (N := (some 17)) (v := ?_) (a' := ?_) #[true, true, true, true, true, true, false, false, false, true] rfl rfl (by kernel_rfl) (fun _ _ _ h => h) (Or.inl ⟨by rfl, ?_⟩) ?_ ?_
  rotate_left
  · intro w'
    go_simp
    with_reducible rfl
  rotate_left
  · simp only [Act.put, List.setIfInBounds_toArray, List.set_cons_zero, List.set_cons_succ, i64_w, i32_w]
    rfl
  refine one_ (i := 6) (N := (some 14)) #[true, true, true, true, true, true, true, false, false, true] rfl rfl (by kernel_rfl) (by decide) (fun K hK => ?_)
  refine goes_ Try.func63 (by kernel_rfl) rfl #[ptr pt, .slice A b.length c] (by rfl) rfl rfl (by simp only [List.map_toArray, List.map_cons, List.map_nil]; rfl) ?_
  refine (stamp_calls _ pt T.bits HI1.out.bits A c b HC1.out HCC.out HL.out HR.out ((blk_cell hHeld 0).trans rfl)).mono ?_
  rintro e w1 ⟨rfl, hd⟩
  refine ⟨_, rfl, ?_⟩
  obtain ⟨nd, rfl⟩ := hd.out
  have hI1 := IsT.move HI1.out (w' := W.drewN nd) (fun _ _ => rfl) (Nat.le_refl _)
  have hF1 := HF1.out.drewN nd
  have hC1 := Kd.C_drewN HC1.out nd
  have hS1 : (W.drewN nd).heap.size = w.heap.size := HS1.out
  clear HI1 HF1 HC1 HS1
  generalize W.drewN nd = W1 at hI1 hF1 hC1 hS1 ⊢
  have HS1 := Aside0.mk hS1
  clear hS1
  have HI1 := Aside0.mk hI1
  have HF1 := Aside0.mk hF1
  have HC1 := Aside0.mk hC1
  clear hI1 hF1 hC1 hd
  refine hK.out _ _ HI1.out.blk (fun hHeld => ?_)
  clear hK K
  refine norm_ (a' := ?_) ?_ ?_
  rotate_left
  · show Act.put _ (some 14) _ = _
    simp only [Act.put, List.setIfInBounds_toArray, List.set_cons_zero, List.set_cons_succ, i64_w, i32_w]
    rfl
  refine one_ (i := 7) (N := (some 15)) #[true, true, true, true, true, true, true, true, false, true] rfl rfl (by kernel_rfl) (by decide) (fun K hK => ?_)
  obtain ⟨v, hlk, hown, hfg, -⟩ := IsT.look HI1.out b
  have hown0 := hown
  obtain ⟨vA, vc, rfl, hvC, hvc⟩ := ints_slice hown
  have HV := Aside0.mk hvC
  have HVC := Aside0.mk hvc
  have HVF := Aside0.mk (show ∀ ad, vA = some ad → FG ad.block from fun ad e => by subst e; exact ints_block hown0 hfg)
  clear hown hvC hvc
  refine value_ (w1 := ?_) (v := ?_) (by rfl) rfl ?_ ?_
  rotate_left 2
  · go_simp
    constructor
    · rfl
    · rfl
  refine hK.out _ _ hHeld (fun hHeld => ?_)
  clear hK K
  refine norm_ (a' := ?_) ?_ ?_
  rotate_left
  · show Act.put _ (some 15) _ = _
    simp only [Act.put, List.setIfInBounds_toArray, List.set_cons_zero, List.set_cons_succ, i64_w, i32_w]
    rfl
  refine pure_ (i := 8) (N := (some 16)) (v := ?_) (a' := ?_) #[true, true, true, true, true, true, true, true, true, true] rfl rfl (by kernel_rfl) (fun _ _ _ h => h) (Or.inl ⟨by rfl, ?_⟩) ?_ ?_
  rotate_left
  · intro w'
    go_simp
    with_reducible rfl
  rotate_left
  · simp only [Act.put, List.setIfInBounds_toArray, List.set_cons_zero, List.set_cons_succ, i64_w, i32_w]
    rfl
  refine done_ (by kernel_rfl) ?_
  go_wp2
  have HVA := Aside0.mk (show ∀ ad, vA = some ad → ad.block ≠ pt from fun ad e => by
    intro e2
    exact HI1.out.gp (e2 ▸ HVF.out ad e))
  have HGD := Aside0.mk (show (T.find b) = (scan T.rows b (T.grp b)).2 from rfl)
  have HGA := Aside0.mk (show T.after b = { T with looked := T.looked + (scan T.rows b (T.grp b)).1, same := T.same + (if (T.find b).isSome then 1 else 0) } from rfl)
  have HGM := Aside0.mk (show ∀ x ∈ T.grp b, 0 ≤ x ∧ x < T.rows.length from fun x hx => idxs_mem hx)
  have HGL := Aside0.mk (show (T.grp b).length ≤ 20000 from Nat.le_trans (idxs_length _ _ _) (Nat.le_trans HI1.out.len HI1.out.room))
  obtain ⟨G, hG⟩ : ∃ G, T.grp b = G := ⟨_, rfl⟩
  rw [hG] at HV HVC HGD HGA HGM HGL ⊢
  clear hlk hfg hHeld hG HI HC
  go_loopw [17] (fun i wr => ∃ k : Nat, i = .int .i64 k ∧ k ≤ G.length ∧ IsT wr pt { T with looked := T.looked + k } F bm (.slice A2 T.rows.length c2) FR FG D ∧ Far (fun k => k = pt) w wr ∧ wr.heap.size = w.heap.size ∧ Kd.C (Kd.int .i64) wr vA G.length G ∧ Kd.C (Kd.int .u8) wr A b.length b ∧ (scan T.rows b G).1 = k + (scan T.rows b (G.drop k)).1 ∧ (scan T.rows b G).2 = (scan T.rows b (G.drop k)).2) (fun i _ => G.length - (intOf i).toNat)
  case atStart => exact ⟨0, rfl, Nat.zero_le _, HI1.out, HF1.out, HS1.out, HV.out, HC1.out, by simp, by simp⟩
  case round =>
    obtain ⟨k, rfl, hk, hI, hF, hS, hV, hB, hs1, hs2⟩ := hrel
    have HI := Aside0.mk hI
    have HF := Aside0.mk hF
    have HS := Aside0.mk hS
    have HV2 := Aside0.mk hV
    have HB := Aside0.mk hB
    have HX1 := Aside0.mk hs1
    have HX2 := Aside0.mk hs2
    clear hI hF hS hV hB hs1 hs2
    by_cases hlt : k < G.length
    · have p0 : decide ((k : Int) < (G.length : Int)) = true := decide_eq_true (by omega)
      have p1 := eq_true (show (k : Int) < (G.length : Int) by omega)
      obtain ⟨ad, ead, hx⟩ := Kd.at_int HV2.out k (Int.natCast_nonneg _) (by omega)
      subst ead
      rw [Int.toNat_natCast] at hx
      have HSD := Aside0.mk (scan_drop T.rows b G k hlt)
      obtain ⟨g0, g1⟩ := HGM.out (rd G k) (by rw [rd_nat G k hlt]; exact List.getElem_mem hlt)
      have HN0 := Aside0.mk g0
      have HN1 := Aside0.mk g1
      obtain ⟨n, hn⟩ : ∃ n, rd G k = n := ⟨_, rfl⟩
      rw [hn] at hx HSD HN0 HN1
      clear g0 g1 hn
      have n0 := HN0.out
      have n1 := HN1.out
      have k2 : wr.cell? ⟨pt, 2, none⟩ = some (.slice A2 T.rows.length c2) := (blk_cell HI.out.blk 2).trans rfl
      obtain ⟨lk, hlk⟩ : ∃ lk : Int, ((T.looked + k : Nat) : Int) = lk := ⟨_, rfl⟩
      have c4 : wr.cell? ⟨pt, 4, none⟩ = some (.int .i64 lk) := by rw [← hlk]; exact (blk_cell HI.out.blk 4).trans rfl
      have f4 : wr.frozen? ⟨pt, 4, none⟩ = false := blk_frozen HI.out.blk 4
      obtain ⟨lk1, hlk1⟩ : ∃ lk1 : Int, lk + 1 = lk1 := ⟨_, rfl⟩
      have hW0 : wrap64 (lk + 1) = lk1 := by
        have := HLK.out
        have := HGL.out
        rw [Base.wrap64_id (by omega) (by omega), hlk1]
      have hW1 : IntKind.i64.wrap (lk + 1) = lk1 := (Base.i64w _).trans hW0
      have HLK1 := Aside0.mk (show lk1 = ((T.looked + (k + 1) : Nat) : Int) from by omega)
      have hI2 : IsT (wr.setCell ⟨pt, 4, none⟩ (.int .i64 lk1)) pt { T with looked := T.looked + (k + 1) } F bm (.slice A2 T.rows.length c2) FR FG D := by
        rw [HLK1.out]; exact IsT.setLooked HI.out (T.looked + (k + 1))
      have hF2 : Far (fun k => k = pt) w (wr.setCell ⟨pt, 4, none⟩ (.int .i64 lk1)) := HF.out.set rfl _
      have hS2 : (wr.setCell ⟨pt, 4, none⟩ (.int .i64 lk1)).heap.size = w.heap.size := by rw [setCell_size]; exact HS.out
      have hV2 : Kd.C (Kd.int .i64) (wr.setCell ⟨pt, 4, none⟩ (.int .i64 lk1)) (some ad) G.length G := row_at HV2.out (fun ad' e => heap_setCell_other _ _ _ _ (HVA.out ad' e))
      have hB2 : Kd.C (Kd.int .u8) (wr.setCell ⟨pt, 4, none⟩ (.int .i64 lk1)) A b.length b := row_at' HB.out (fun hne ad' e => heap_setCell_other _ _ _ _ (HA.out hne ad' e))
      obtain ⟨ad2, A0, c0, e2, hcell2, hle, hC0⟩ := at_L6 (Kd.R_reads' hI2.rows).2.2 n HN0.out HN1.out
      have HNP := Aside0.mk (show ad2.block ≠ pt from fun e => hI2.rp (e ▸ (by subst e2; exact rows_block hI2.rows)))
      have HBY := Aside0.mk (HI.out.byt (rd_L6 T.rows n) (by unfold rd_L6; rw [List.getD_eq_getElem?_getD, List.getElem?_eq_getElem (by have := HN0.out; have := HN1.out; omega)]; exact List.getElem_mem _))
      subst e2
      clear HI HF HS HV2 HB
      have HI := Aside0.mk hI2
      have HF := Aside0.mk hF2
      have HS := Aside0.mk hS2
      have HV2 := Aside0.mk hV2
      have HB := Aside0.mk hB2
      have HQ := Aside0.mk (show rd_L6 T.rows n = T.rows.getD n.toNat [] from rfl)
      obtain ⟨row, hrow⟩ : ∃ row, rd_L6 T.rows n = row := ⟨_, rfl⟩
      rw [hrow] at hcell2 hle hC0 HBY HQ
      clear hI2 hF2 hS2 hV2 hB2 hrow
      clear hlk hlk1
      have hne := HNP.out
      have hne2 : pt ≠ ad2.block := fun e => HNP.out e.symm
      have HLE := Aside0.mk hle
      have HC0 := Aside0.mk hC0
      clear hle hC0
      go_wp2_with fail
      refine (bytes_Equal.calls A0 c0 row A c b (decide (row = b)) _ HC0.out HLE.out HB.out HCC.out (equal_tells row b HBY.out.2 HR.out)).mono ?_
      rintro e w3 ⟨rfl, hd⟩
      obtain ⟨nd3, rfl⟩ := hd.out
      have HI3 := Aside0.mk (IsT.move HI.out (w' := World.drewN (wr.setCell ⟨pt, 4, none⟩ (.int .i64 lk1)) nd3) (fun _ _ => rfl) (Nat.le_refl _))
      have HF3 := Aside0.mk (HF.out.drewN nd3)
      have HS3 := Aside0.mk (show (World.drewN (wr.setCell ⟨pt, 4, none⟩ (.int .i64 lk1)) nd3).heap.size = w.heap.size from HS.out)
      have HV3 := Aside0.mk (Kd.C_drewN HV2.out nd3)
      have HB3 := Aside0.mk (Kd.C_drewN HB.out nd3)
      clear HI HF HS HV2 HB hd k2 c4 f4 hcell2 hx HC0
      generalize World.drewN (wr.setCell ⟨pt, 4, none⟩ (.int .i64 lk1)) nd3 = W3 at HI3 HF3 HS3 HV3 HB3 ⊢
      by_cases heq : row = b
      · have q0 : decide (row = b) = true := decide_eq_true heq
        rw [q0]
        have HE := Aside0.mk (show T.after b = { T with looked := T.looked + (k + 1), same := T.same + 1 } from by
          rw [HGA.out, HGD.out, HX1.out, HX2.out, HSD.out, if_pos (HQ.out.symm.trans heq)]; rfl)
        have HE2 := Aside0.mk (show T.find b = some n from by rw [HGD.out, HX2.out, HSD.out, if_pos (HQ.out.symm.trans heq)])
        obtain ⟨sm, hsm⟩ : ∃ sm : Int, (T.same : Int) = sm := ⟨_, rfl⟩
        have c5 : W3.cell? ⟨pt, 5, none⟩ = some (.int .i64 sm) := by rw [← hsm]; exact (blk_cell HI3.out.blk 5).trans rfl
        have f5 : W3.frozen? ⟨pt, 5, none⟩ = false := blk_frozen HI3.out.blk 5
        obtain ⟨sm1, hsm1⟩ : ∃ sm1 : Int, sm + 1 = sm1 := ⟨_, rfl⟩
        have hV0 : wrap64 (sm + 1) = sm1 := by
          have := HLK.out
          have := HSM.out
          rw [Base.wrap64_id (by omega) (by omega), hsm1]
        have hV1 : IntKind.i64.wrap (sm + 1) = sm1 := (Base.i64w _).trans hV0
        have HSM1 := Aside0.mk (show sm1 = ((T.same + 1 : Nat) : Int) from by omega)
        clear hsm hsm1 heq
        go_wp2
        go_ret2
        refine ⟨by rw [HE2.out]; rfl, ?_, HF3.out.set rfl _, by rw [setCell_size]; exact HS3.out⟩
        rw [HE.out, HSM1.out]
        exact IsT.setSame HI3.out (T.same + 1)
      · have q0 : decide (row = b) = false := decide_eq_false heq
        rw [q0]
        have HSD2 := Aside0.mk (show scan T.rows b (G.drop k) = ((scan T.rows b (G.drop (k + 1))).1 + 1, (scan T.rows b (G.drop (k + 1))).2) from by rw [HSD.out, if_neg (fun e => heq (HQ.out.trans e))])
        clear heq
        have hkb : G.length ≤ 20000 := HGL.out
        go_wp2
        go_roundw
        case rel => exact ⟨k + 1, by go_num, by omega, HI3.out, HF3.out, HS3.out, HV3.out, HB3.out, by rw [HX1.out, HSD2.out]; omega, by rw [HX2.out, HSD2.out]⟩
        case measure => simp [intOf]; omega
    · have p0 : decide ((k : Int) < (G.length : Int)) = false := decide_eq_false (by omega)
      have hkn : k = G.length := by omega
      subst hkn
      have HE := Aside0.mk (show T.after b = { T with looked := T.looked + G.length } from by
        rw [HGA.out, HGD.out, HX1.out, HX2.out, List.drop_length]; rfl)
      have HE2 := Aside0.mk (show T.find b = none from by rw [HGD.out, HX2.out, List.drop_length]; rfl)
      go_wp2
      go_ret2
      refine ⟨by rw [HE2.out]; rfl, by rw [HE.out]; exact HI.out, HF.out, HS.out⟩
end Go.Proofs.Ytdhdofkpgaibiaa.St
namespace Go.Proofs.Ytdhdofkpgaibiaa.St
open Go.RowKit Go.Proofs.YtdhdofkpgaibiaaW.PrintWords Go.Proofs.YtdhdofkpgaibiaaW.PrintLast Go.Proofs.YtdhdofkpgaibiaaW.PrintMore Go.Proofs.Ytdhdofkpgaibiaa.PStampTells
open Go.Maps Go.WideElems Go.MapKept Go.ChangeMaps Go.ChangeShapes
set_option linter.unusedVariables false
set_option linter.unusedSimpArgs false
theorem pw_one {α : Type} {R : α → α → Prop} {l : List α} (h : l.Pairwise R) {a b : α} (ha : a ∈ l) (hb : b ∈ l) (h1 : ¬ R a b) (h2 : ¬ R b a) : a = b := by
  induction l with
  | nil => cases ha
  | cons x l ih =>
    obtain ⟨hx, hl⟩ := List.pairwise_cons.1 h
    rcases List.mem_cons.1 ha with rfl | ha' <;> rcases List.mem_cons.1 hb with rfl | hb'
    · rfl
    · exact absurd (hx _ hb') h1
    · exact absurd (hx _ ha') h2
    · exact ih hl ha' hb'
/-- The world between the rows' growth and the group's. -/
structure Mid (w : World) (pt : Nat) (T : Tab) (b : List Int) (F : Nat → Prop) (bm : Nat) (vr : Value) (FR FG : Nat → Prop) (D : DataW Unit) : Prop where
  blk : w.heap[pt]? = some (.cells (tabCells T vr bm) 100 (0, 0))
  rows : Kd.R (Kd.slice 5 (Kd.int .u8)) 27 w 0 FR vr (T.rows ++ [b])
  grp : w.ownsGroups Try.prog 30 (bm + 1) 3 .i64 bm T.rows.length D
  shun : w.Shuns bm (fun k => ¬ FG k)
  isMap : Maps.IsMap D
  hat : ∀ s : Nat, s < 18446744073709551616 → D.atKey (.int .u64 (s : Int)) .nil = datum (idxs T.bits T.rows s)
  fp : F pt
  fm : F bm
  fr : ∀ k, FR k → F k
  fg : ∀ k, FG k → F k
  lt : ∀ k, F k → k < w.heap.size
  rp : ¬ FR pt
  rm : ¬ FR bm
  gp : ¬ FG pt
  gm : ¬ FG bm
  rg : ∀ k, FR k → ¬ FG k
  pm : pt ≠ bm
  bits : T.bits ≤ 64
  len : T.rows.length + 1 ≤ T.room
  room : T.room ≤ 20000
  byt : ∀ r ∈ T.rows ++ [b], r.length ≤ 140737488351232 ∧ ∀ x ∈ r, 0 ≤ x ∧ x < 256
theorem Mid.move {w w' : World} {pt : Nat} {T : Tab} {b : List Int} {F : Nat → Prop} {bm : Nat} {vr : Value} {FR FG : Nat → Prop} {D : DataW Unit} (h : Mid w pt T b F bm vr FR FG D) (hm : ∀ k, F k → w'.heap[k]? = w.heap[k]?) (hs : w.heap.size ≤ w'.heap.size) : Mid w' pt T b F bm vr FR FG D :=
  { h with
    blk := (hm pt h.fp).trans h.blk
    rows := Kd.R_move h.rows (fun k hk => hm k (h.fr k hk))
    grp := groups_move h.grp (hm bm h.fm) h.shun (fun k hk => hm k (h.fg k hk))
    shun := shuns_move h.shun (hm bm h.fm)
    lt := fun k hk => Nat.lt_of_lt_of_le (h.lt k hk) hs }
/-- Behind the append to the rows and the store. -/
theorem mid_of {wA wC wD : World} {pt : Nat} {T : Tab} {b : List Int} {F : Nat → Prop} {bm : Nat} {vr vr1 : Value} {FR FG : Nat → Prop} {D : DataW Unit} (h : IsT wA pt T F bm vr FR FG D) (hb : Below wA.heap.size wA wC) (hg : wC.grownBy wD vr.ownBlock)
    (ho : Kd.R (Kd.slice 5 (Kd.int .u8)) 27 wD 0 (fun k => FR k ∨ wA.heap.size ≤ k) vr1 (T.rows ++ [b])) (hlen : T.rows.length < T.room) (hbl : b.length ≤ 140737488351232) (hbr : ∀ x ∈ b, 0 ≤ x ∧ x < 256) :
    Mid (wD.setCell ⟨pt, 2, none⟩ vr1) pt T b (fun k => F k ∨ (wA.heap.size ≤ k ∧ k < wD.heap.size)) bm vr1 (fun k => FR k ∨ (wA.heap.size ≤ k ∧ k < wD.heap.size)) FG D ∧ Far F wA (wD.setCell ⟨pt, 2, none⟩ vr1) := by
  have hvr : ∀ k, some k = vr.ownBlock → FR k := fun k e => h.rows.1 k e.symm
  have hAD : ∀ k, k < wA.heap.size → ¬ FR k → wD.heap[k]? = wA.heap[k]? := fun k hk hn => (hg.block k (Nat.lt_of_lt_of_le hk hb.size) (fun e => hn (hvr k e))).trans (hb.block k hk)
  have hpt := h.lt pt h.fp
  have hbm := h.lt bm h.fm
  have hAE : ∀ k, k < wA.heap.size → ¬ FR k → k ≠ pt → (wD.setCell ⟨pt, 2, none⟩ vr1).heap[k]? = wA.heap[k]? := fun k hk hn hp => (heap_setCell_other _ _ _ _ hp).trans (hAD k hk hn)
  have hsz : wA.heap.size ≤ wD.heap.size := Nat.le_trans hb.size hg.size
  have hR : Kd.R (Kd.slice 5 (Kd.int .u8)) 27 wD 0 (fun k => FR k ∨ (wA.heap.size ≤ k ∧ k < wD.heap.size)) vr1 (T.rows ++ [b]) := Kd.R_mono (Kd.R_bound ho) (fun k hk => hk.1.elim Or.inl (fun h1 => Or.inr ⟨h1, hk.2.2.1⟩))
  refine ⟨{ blk := ?_, rows := ?_, grp := ?_, shun := ?_, isMap := h.isMap, hat := h.hat, fp := Or.inl h.fp, fm := Or.inl h.fm, fr := ?_, fg := fun k hk => Or.inl (h.fg k hk), lt := ?_, rp := ?_, rm := ?_, gp := h.gp, gm := h.gm, rg := ?_, pm := h.pm, bits := h.bits, len := hlen, room := h.room, byt := ?_ }, ?_⟩
  · exact (blk_set ((hAD pt hpt h.rp).trans h.blk) 2 vr1).trans rfl
  · exact Kd.R_far hR (fun k hk e => by
      subst e
      rcases hk with h1 | h1
      · exact h.rp h1
      · omega) vr1
  · exact groups_move h.grp (hAE bm hbm h.rm (fun e => h.pm e.symm)) h.shun (fun k hk => hAE k (h.lt k (h.fg k hk)) (fun hr => h.rg k hr hk) (fun e => h.gp (e ▸ hk)))
  · exact shuns_move h.shun (hAE bm hbm h.rm (fun e => h.pm e.symm))
  · exact fun k hk => hk.elim (fun h1 => Or.inl (h.fr k h1)) Or.inr
  · intro k hk
    rw [setCell_size]
    rcases hk with h1 | h1
    · exact Nat.lt_of_lt_of_le (h.lt k h1) hsz
    · exact h1.2
  · intro hk
    rcases hk with h1 | h1
    · exact h.rp h1
    · omega
  · intro hk
    rcases hk with h1 | h1
    · exact h.rm h1
    · omega
  · intro k hk hk2
    rcases hk with h1 | h1
    · exact h.rg k h1 hk2
    · have := h.lt k (h.fg k hk2); omega
  · intro r hr
    rcases List.mem_append.1 hr with h1 | h1
    · exact h.byt r h1
    · rw [List.mem_singleton] at h1
      subst h1
      exact ⟨hbl, hbr⟩
  · refine Far.set ?_ h.fp vr1
    exact ((Far.of_below hb (F := F)).trans ((Far.of_grown hg).mono (fun k e => Or.inl (h.fr k (hvr k e)))))
/-- The group of a row, looked up. -/
theorem Mid.look {w : World} {pt : Nat} {T : Tab} {b : List Int} {F : Nat → Prop} {bm : Nat} {vr : Value} {FR FG : Nat → Prop} {D : DataW Unit} (h : Mid w pt T b F bm vr FR FG D) (s : Nat) (hs : s < 18446744073709551616) :
    ∃ v, (Instr.lookup 98 (.map (some bm)) (.int .u64 s) false).run Try.prog w = .ok v w ∧ w.ownsInts (bm + 1) 3 .i64 v (idxs T.bits T.rows s) ∧ (∀ k, v.ownBlock = some k → FG k) ∧ w.groupBack Try.prog 98 30 (bm + 1) 3 .i64 bm T.rows.length D (.int .u64 s) (.int .u64 s) v := by
  have hn : T.rows.length < maxLen := by have := h.len; have := h.room; simp only [maxLen]; omega
  obtain ⟨v, zs, h1, h2, h3, h4, h5⟩ := h.grp.at (int_keyed Try.underlying30) Try.underlying98 (zero82 w) hn (key30 _ hs)
  rw [h.hat _ hs] at h2
  have e := datum_row h3 h2
  refine ⟨v, h1, by rw [e] at h3; exact h3, ?_, h5⟩
  obtain ⟨es, clock, hb, F', _⟩ := h.grp
  intro k hk
  rcases Maps.fit_look false (int_keyed Try.underlying30) Try.underlying98 (zero82 w) hb F' (key30 _ hs) with ⟨hr, _, _⟩ | ⟨e0, y, hm, _, hr, _⟩
  · rw [h1] at hr
    obtain rfl : v = .slice none 0 0 := by simpa using hr
    cases hk
  · rw [h1] at hr
    obtain rfl : v = e0.val := by simpa using hr
    exact Classical.not_not.1 (h.shun es clock hb e0 hm k hk)
/-- Another world with the map as it was: the same group is found. -/
theorem look_same {w w' : World} {bm n : Nat} {D : DataW Unit} {v : Value} (hg : w.ownsGroups Try.prog 30 (bm + 1) 3 .i64 bm n D) (hb' : w'.heap[bm]? = w.heap[bm]?) (s : Nat) (hs : s < 18446744073709551616) (h : (Instr.lookup 98 (.map (some bm)) (.int .u64 s) false).run Try.prog w = .ok v w) :
    (Instr.lookup 98 (.map (some bm)) (.int .u64 s) false).run Try.prog w' = .ok v w' := by
  obtain ⟨es, clock, hb, F, _⟩ := hg
  have pw := ((stamped_iff es clock).1 F.stamped).2.2
  rcases Maps.fit_look false (int_keyed Try.underlying30) Try.underlying98 (zero82 w) hb F (key30 _ hs) with ⟨hr, hn, _⟩ | ⟨e0, y, hm, hk, hr, _⟩
  · rw [h] at hr
    obtain rfl : v = .slice none 0 0 := by simpa using hr
    rcases Maps.fit_look false (int_keyed Try.underlying30) Try.underlying98 (zero82 w') (hb'.trans hb) F (key30 _ hs) with ⟨hr', _, _⟩ | ⟨e1, y', hm', hk', hr', _⟩
    · exact hr'
    · exact absurd hk' (hn e1 hm')
  · rw [h] at hr
    obtain rfl : v = e0.val := by simpa using hr
    rcases Maps.fit_look false (int_keyed Try.underlying30) Try.underlying98 (zero82 w') (hb'.trans hb) F (key30 _ hs) with ⟨hr', hn', _⟩ | ⟨e1, y', hm', hk', hr', _⟩
    · exact absurd hk (hn' e0 hm)
    · obtain rfl : e0 = e1 := pw_one pw hm hm' (fun hne => hne (hk.trans hk'.symm)) (fun hne => hne (hk'.trans hk.symm))
      exact hr'
/-- Behind the append to the group and the store into the map. -/
theorem put_of {W wF wG : World} {pt : Nat} {T : Tab} {b : List Int} {F : Nat → Prop} {bm : Nat} {vr : Value} {FR FG : Nat → Prop} {D : DataW Unit} (h : Mid W pt T b F bm vr FR FG D) {v v1 : Value} (hgr : W.grownBy wF v.ownBlock) (hv : ∀ k, v.ownBlock = some k → FG k) (hat1 : v1.ownBlock = v.ownBlock ∨ ∃ g, v1.ownBlock = some g ∧ W.heap.size ≤ g)
    (hown : wF.ownsInts (bm + 1) 3 .i64 v1 (idxs T.bits T.rows (stN T.bits b) ++ [(T.rows.length : Int)])) (hrun : (Instr.mapUpdate 98 (.map (some bm)) (.int .u64 (stN T.bits b)) v1).run Try.prog wF = .ok () wG)
    (hgG : wG.ownsGroups Try.prog 30 (bm + 1) 3 .i64 bm (T.rows.length + 1) (D.put (.int .u64 (stN T.bits b)) (rowDatum .i64 v1 (idxs T.bits T.rows (stN T.bits b) ++ [(T.rows.length : Int)])))) (hgr2 : wF.grownBy wG (some bm)) :
    IsT wG pt { T with rows := T.rows ++ [b] } (fun k => F k ∨ (W.heap.size ≤ k ∧ k < wG.heap.size)) bm vr FR (fun k => FG k ∨ (W.heap.size ≤ k ∧ k < wG.heap.size)) (D.put (.int .u64 (stN T.bits b)) (rowDatum .i64 v1 (idxs T.bits T.rows (stN T.bits b) ++ [(T.rows.length : Int)]))) ∧ Far F W wG := by
  have hpt := h.lt pt h.fp
  have hbm := h.lt bm h.fm
  have hsz : W.heap.size ≤ wG.heap.size := Nat.le_trans hgr.size hgr2.size
  have hF : ∀ k, k < W.heap.size → ¬ FG k → k ≠ bm → wG.heap[k]? = W.heap[k]? := fun k hk hn hm => (hgr2.block k (Nat.lt_of_lt_of_le hk hgr.size) (fun e => hm (Option.some.inj e))).trans (hgr.block k hk (fun e => hn (hv k e.symm)))
  have hne : idxs T.bits T.rows (stN T.bits b) ++ [(T.rows.length : Int)] ≠ [] := by simp
  refine ⟨{ blk := ?_, rows := ?_, grp := ?_, shun := ?_, isMap := h.isMap.put _ _, hat := ?_, fp := Or.inl h.fp, fm := Or.inl h.fm, fr := fun k hk => Or.inl (h.fr k hk), fg := ?_, lt := ?_, rp := h.rp, rm := h.rm, gp := ?_, gm := ?_, rg := ?_, pm := h.pm, bits := h.bits, len := ?_, room := h.room, byt := h.byt }, ?_⟩
  · exact (hF pt hpt h.gp h.pm).trans h.blk
  · exact Kd.R_move h.rows (fun k hk => hF k (h.lt k (h.fr k hk)) (h.rg k hk) (fun e => h.rm (e ▸ hk)))
  · simpa using hgG
  · obtain ⟨es, clock, hb, F0, hs0, _⟩ := h.grp
    have hb1 : wF.heap[bm]? = some (.map es clock) := (hgr.block bm hbm (fun e => h.gm (hv bm e.symm))).trans hb
    have hn : es.size < maxLen := by have := h.len; have := h.room; simp only [maxLen]; omega
    obtain ⟨es', clock', hb2, hwho⟩ := stored_who (int_keyed Try.underlying30) Try.underlying98 hb1 F0 hn (key30 _ (stN_lt T.bits b)) hrun
    intro es2 clock2 hb2' y hy g hyg
    obtain ⟨rfl, rfl⟩ : es' = es2 ∧ clock' = clock2 := by rw [hb2] at hb2'; simpa using hb2'
    refine not_not_intro ?_
    rcases hwho y hy with ⟨hy0, _⟩ | ⟨_, hval⟩
    · exact Or.inl (Classical.not_not.1 (h.shun es clock hb y hy0 g hyg))
    · rw [hval] at hyg
      rcases hat1 with h1 | ⟨g', h1, h2⟩
      · exact Or.inl (hv g (by rw [← h1]; exact hyg))
      · rw [h1] at hyg
        obtain rfl := Option.some.inj hyg
        exact Or.inr ⟨h2, Nat.lt_of_lt_of_le (hown.1.lt g' h1).2 hgr2.size⟩
  · intro s hs
    show _ = datum (idxs T.bits (T.rows ++ [b]) s)
    rw [idxs_snoc]
    by_cases e : stN T.bits b = s
    · subst e
      rw [if_pos rfl, Maps.atKey_put_same h.isMap ((int_keyed Try.underlying30).key (key30 _ hs)), hown.datum_pos hne]
      unfold datum
      rw [if_neg hne]
    · rw [if_neg e, List.append_nil, Maps.atKey_put_other (by intro e2; injection e2 with e3 e4; exact e (by omega)), h.hat s hs]
  · exact fun k hk => hk.elim (fun h1 => Or.inl (h.fg k h1)) Or.inr
  · intro k hk
    rcases hk with h1 | h1
    · exact Nat.lt_of_lt_of_le (h.lt k h1) hsz
    · exact h1.2
  · intro hk
    rcases hk with h1 | h1
    · exact h.gp h1
    · omega
  · intro hk
    rcases hk with h1 | h1
    · exact h.gm h1
    · omega
  · intro k hk hk2
    rcases hk2 with h1 | h1
    · exact h.rg k hk h1
    · have := h.lt k (h.fr k hk); omega
  · show (T.rows ++ [b]).length ≤ T.room
    rw [List.length_append]
    exact h.len
  · refine ((Far.of_grown hgr).mono (G := F) (fun k e => Or.inl (h.fg k (hv k e.symm)))).trans ((Far.of_grown hgr2).mono (fun k e => Or.inl (by obtain rfl := Option.some.inj e; exact h.fm)))
end Go.Proofs.Ytdhdofkpgaibiaa.St
namespace Go.Proofs.Ytdhdofkpgaibiaa.St
open Go.RowKit Go.Proofs.YtdhdofkpgaibiaaW.PrintWords Go.Proofs.YtdhdofkpgaibiaaW.PrintLast Go.Proofs.YtdhdofkpgaibiaaW.PrintMore Go.Proofs.Ytdhdofkpgaibiaa.PStampTells
open Go.Maps Go.WideElems Go.MapKept Go.ChangeMaps Go.ChangeShapes
set_option linter.unusedVariables false
set_option linter.unusedSimpArgs false
theorem info27s : (Try.prog.info? 27).map (fun i => (i.zero, i.size, i.bytes)) = some (some (.slice none 0 0), 1, 24) := by kernel_rfl
theorem info3s : (Try.prog.info? 3).map (fun i => (i.zero, i.size, i.bytes)) = some (some (.int .i64 0), 1, 8) := by kernel_rfl
theorem Far.trans' {F G : Nat → Prop} {w w1 w2 : World} (h : Far F w w1) (h' : Far G w1 w2) (hg : ∀ k, k < w.heap.size → G k → F k) : Far F w w2 := ⟨h'.os.trans h.os, h'.tape.trans h.tape, h'.output.trans h.output, Nat.le_trans h.size h'.size, fun k hk hn => (h'.block k (Nat.lt_of_lt_of_le hk h.size) (fun hG => hn (hg k hk hG))).trans (h.block k hk hn)⟩
theorem ints_of_R {w : World} {base : Nat} {v : Value} {zs : List Int} (h : Kd.R (Kd.int .i64) 3 w base (fun _ => True) v zs) (hz : ∀ z ∈ zs, 0 ≤ z ∧ z < 1000000) : w.ownsInts base 3 .i64 v zs :=
  ⟨Kd.own_of_R h, fun z hz' => by
    obtain ⟨h0, h1⟩ := hz z hz'
    simp [Lit.wf, IntKind.min, IntKind.max, IntKind.signed, IntKind.bits]; omega⟩
set_option maxHeartbeats 4000000 in
set_option maxRecDepth 1000000 in
theorem put_has (w : World) {pt : Nat} {T : Tab} {F : Nat → Prop} {bm : Nat} {vr : Value} {FR FG : Nat → Prop} {D : DataW Unit} (h : IsT w pt T F bm vr FR FG D) (A : Option Addr) (c : Nat) (b : List Int) (hC : Kd.C (Kd.int .u8) w A b.length b) (hc : b.length ≤ c) (hl : b.length ≤ 140737488351232) (hr : ∀ x ∈ b, 0 ≤ x ∧ x < 256) (hA : b ≠ [] → ∀ ad, A = some ad → ad.block ≠ pt) (hlk : T.looked < 4611686018427387904) (hsm : T.same ≤ T.looked) (n : Int) (hn : T.find b = some n) :
    Calls Try.prog 22 #[ptr pt, .slice A b.length c] w fun e w' => e = .returned (.tuple #[.int .i64 n, .int .i64 0]) ∧ IsT w' pt (T.after b) F bm vr FR FG D ∧ Far (fun k => k = pt) w w' := by
  go_enter Try.func22, Try.ntmps22
  go_wp2_with fail
  refine (find_calls w h A c b hC hc hl hr hA hlk hsm).mono ?_
  rintro e w2 ⟨rfl, hI, hF, hS⟩
  rw [hn]
  simp only [Option.getD_some, Option.isSome_some]
  clear h hC hc hl hr hA hlk hsm hS
  have HI := Aside0.mk hI
  have HF := Aside0.mk hF
  clear hI hF
  go_wp2
  go_ret2
  exact ⟨rfl, HI.out, HF.out⟩
set_option maxHeartbeats 4000000 in
set_option maxRecDepth 1000000 in
theorem put_full (w : World) {pt : Nat} {T : Tab} {F : Nat → Prop} {bm : Nat} {vr : Value} {FR FG : Nat → Prop} {D : DataW Unit} (h : IsT w pt T F bm vr FR FG D) (A : Option Addr) (c : Nat) (b : List Int) (hC : Kd.C (Kd.int .u8) w A b.length b) (hc : b.length ≤ c) (hl : b.length ≤ 140737488351232) (hr : ∀ x ∈ b, 0 ≤ x ∧ x < 256) (hA : b ≠ [] → ∀ ad, A = some ad → ad.block ≠ pt) (hlk : T.looked < 4611686018427387904) (hsm : T.same ≤ T.looked) (hn : T.find b = none) (hfull : T.room ≤ T.rows.length) :
    Calls Try.prog 22 #[ptr pt, .slice A b.length c] w fun e w' => e = .returned (.tuple #[.int .i64 0, .int .i64 60]) ∧ IsT w' pt (T.after b) F bm vr FR FG D ∧ Far (fun k => k = pt) w w' := by
  obtain ⟨A2, c2, rfl⟩ := Kd.R_slice h.rows
  have p0 : decide ((T.room : Int) ≤ (T.rows.length : Int)) = true := decide_eq_true (by omega)
  have q0 := eq_true (show (T.room : Int) ≤ (T.rows.length : Int) by omega)
  go_enter Try.func22, Try.ntmps22
  go_wp2_with fail
  refine (find_calls w h A c b hC hc hl hr hA hlk hsm).mono ?_
  rintro e w2 ⟨rfl, hI, hF, hS⟩
  rw [hn]
  simp only [Option.getD_none, Option.isSome_none]
  have k1 : w2.cell? ⟨pt, 1, none⟩ = some (.int .i64 T.room) := (blk_cell hI.blk 1).trans rfl
  have k2 : w2.cell? ⟨pt, 2, none⟩ = some (.slice A2 T.rows.length c2) := (blk_cell hI.blk 2).trans rfl
  clear h hC hc hl hr hA hlk hsm hS
  have HI := Aside0.mk hI
  have HF := Aside0.mk hF
  clear hI hF
  go_wp2
  go_ret2
  exact ⟨rfl, HI.out, HF.out⟩
theorem row_far {q : IntKind} {w w1 : World} {A : Option Addr} {n : Nat} {xs : List Int} (h : Kd.C (Kd.int q) w A n xs) (hm : ∀ ad, A = some ad → ad.block < w.heap.size → w1.heap[ad.block]? = w.heap[ad.block]?) : Kd.C (Kd.int q) w1 A n xs := by
  refine ⟨h.1, h.2.1, fun hn => ?_⟩
  obtain ⟨ad, e, hc⟩ := h.2.2 hn
  refine ⟨ad, e, fun j p hj => ?_⟩
  obtain ⟨cs, h1, h2, h3⟩ := hc j p hj
  refine ⟨cs, h1, h2, fun i u hu => ?_⟩
  have h4 := h3 i u hu
  have hb : ∀ k, (ad.add k).block = ad.block := fun k => by unfold Addr.add; split <;> rfl
  have hlt := World.block_lt_of_cell? w _ h4
  rw [hb] at hlt
  rw [← h4]
  exact World.cell?_of_block (by rw [hb]; exact hm ad e hlt)
theorem row_far' {q : IntKind} {w w1 : World} {A : Option Addr} {n : Nat} {xs : List Int} (h : Kd.C (Kd.int q) w A n xs) (hm : xs ≠ [] → ∀ ad, A = some ad → ad.block < w.heap.size → w1.heap[ad.block]? = w.heap[ad.block]?) : Kd.C (Kd.int q) w1 A n xs := by
  by_cases e : xs = []
  · subst e
    exact ⟨h.1, h.2.1, fun hn => absurd hn (by have := h.1; simp at this; omega)⟩
  · exact row_far h (hm e)
set_option maxHeartbeats 8000000 in
set_option maxRecDepth 1000000 in
theorem put_new (w : World) {pt : Nat} {T : Tab} {F : Nat → Prop} {bm : Nat} {vr : Value} {FR FG : Nat → Prop} {D : DataW Unit} (h : IsT w pt T F bm vr FR FG D) (A : Option Addr) (c : Nat) (b : List Int) (hC : Kd.C (Kd.int .u8) w A b.length b) (hc : b.length ≤ c) (hl : b.length ≤ 140737488351232) (hr : ∀ x ∈ b, 0 ≤ x ∧ x < 256) (hA : b ≠ [] → ∀ ad, A = some ad → ad.block ≠ pt) (hlk : T.looked < 4611686018427387904) (hsm : T.same ≤ T.looked) (hn : T.find b = none) (hroom : T.rows.length < T.room) :
    Calls Try.prog 22 #[ptr pt, .slice A b.length c] w fun e w' => e = .returned (.tuple #[.int .i64 T.rows.length, .int .i64 0]) ∧ Far F w w' ∧ ∃ vr' FR' FG' D' F', (∀ k, F' k → F k ∨ w.heap.size ≤ k) ∧ (∀ k, F k → F' k) ∧ IsT w' pt { T.after b with rows := T.rows ++ [b] } F' bm vr' FR' FG' D' := by
  obtain ⟨A2, c2, rfl⟩ := Kd.R_slice h.rows
  have HC := Aside0.mk hC
  have HCC := Aside0.mk hc
  have HL := Aside0.mk hl
  have HR := Aside0.mk hr
  have HA := Aside0.mk hA
  go_enter Try.func22, Try.ntmps22
  go_wp2_with fail
  refine (find_calls w h A c b hC hc hl hr hA hlk hsm).mono ?_
  rintro e w2 ⟨rfl, hI, hF, hS⟩
  rw [hn]
  simp only [Option.getD_none, Option.isSome_none]
  have hCC := row_far' (w1 := w2) hC (fun hne ad e hlt => hF.block ad.block hlt (hA hne ad e))
  have hr1 : (T.after b).rows = T.rows := rfl
  have hr2 : (T.after b).room = T.room := rfl
  obtain ⟨T2, hT2⟩ : ∃ T2, T.after b = T2 := ⟨_, rfl⟩
  have HT2 := Aside0.mk hT2
  rw [hT2] at hI hr1 hr2
  have HR1 := Aside0.mk hr1
  rw [← hr1] at hI hroom
  rw [← hr2] at hroom
  clear h hC hc hl hr hA hlk hsm hn hT2 hr1 hr2
  have k1 : w2.cell? ⟨pt, 1, none⟩ = some (.int .i64 T2.room) := (blk_cell hI.blk 1).trans rfl
  have k2 : w2.cell? ⟨pt, 2, none⟩ = some (.slice A2 T2.rows.length c2) := (blk_cell hI.blk 2).trans rfl
  have p0 : decide ((T2.room : Int) ≤ (T2.rows.length : Int)) = false := decide_eq_false (by omega)
  have q0 := eq_false (show ¬ (T2.room : Int) ≤ (T2.rows.length : Int) by omega)
  have HI := Aside0.mk hI
  have HF := Aside0.mk (hF.mono (G := F) (fun k e => Or.inl (by subst e; exact hI.fp)))
  have HC2 := Aside0.mk hCC
  have HRM := Aside0.mk hroom
  have HS2 := Aside0.mk hS
  clear hI hF hCC hroom hS HC
  go_wp2_with fail
  refine (stamp_calls _ pt T2.bits HI.out.bits A c b HC2.out HCC.out HL.out HR.out ((blk_cell HI.out.blk 0).trans rfl)).mono ?_
  rintro e w3 ⟨rfl, hd⟩
  obtain ⟨nd, rfl⟩ := hd.out
  have HI3 := Aside0.mk (HI.out.move (w' := w2.drewN nd) (fun _ _ => rfl) (Nat.le_refl _))
  have HF3 := Aside0.mk (HF.out.drewN nd)
  have HC3 := Aside0.mk (Kd.C_drewN HC2.out nd)
  clear HI HF HC2 hd k1 k2 p0 q0
  obtain ⟨w3, hw3⟩ : ∃ w3, w2.drewN nd = w3 := ⟨_, rfl⟩
  rw [hw3] at HI3 HF3 HC3 ⊢
  clear hw3
  obtain ⟨s, hs⟩ : ∃ s, stN T2.bits b = s := ⟨_, rfl⟩
  have HSS := Aside0.mk hs
  have HSL := Aside0.mk (show s < 18446744073709551616 from hs ▸ stN_lt T2.bits b)
  rw [hs]
  clear hs
  go_wp2
  refine start_ (n := 12) (S := fun w' => w'.heap[pt]? = some (.cells (tabCells T2 (.slice A2 T2.rows.length c2) bm) 100 (0, 0))) (ds := [11]) #[false, false, false, false, false, false, false, false, false, false, false, false] (by kernel_rfl) rfl rfl HI3.out.blk (fun hHeld => ?_)
  have hIA := HI3.out.move (w' := w3.drew) (fun _ _ => rfl) (Nat.le_refl _)
  have hFA := HF3.out.drew
  have hCA := Kd.C_drew HC3.out
  clear HI3 HF3 HC3
  generalize w3.drew = WA at hIA hFA hCA hHeld ⊢
  have HIA := Aside0.mk hIA
  have HFA := Aside0.mk hFA
  have HCA := Aside0.mk hCA
  clear hIA hFA hCA
  refine pure_ (i := 0) (N := (some 32)) (v := ?_) (a' := ?_) #[true, false, false, false, false, false, false, false, false, false, false, false] rfl rfl (by kernel_rfl) (fun _ _ _ h => h) (Or.inl ⟨by rfl, ?_⟩) ?_ ?_
  rotate_left
  · intro w'
    go_simp
    with_reducible rfl
  rotate_left
  · simp only [Act.put, List.setIfInBounds_toArray, List.set_cons_zero, List.set_cons_succ, i64_w, i32_w]
    rfl
  refine pure_ (i := 1) (N := (some 33)) (v := ?_) (a' := ?_) #[true, true, false, false, false, false, false, false, false, false, false, false] rfl rfl (by kernel_rfl) (fun _ _ _ h => h) (Or.inl ⟨by rfl, ?_⟩) ?_ ?_
  rotate_left
  · intro w'
    go_simp
    with_reducible rfl
  rotate_left
  · simp only [Act.put, List.setIfInBounds_toArray, List.set_cons_zero, List.set_cons_succ, i64_w, i32_w]
    rfl
  refine pure_ (i := 2) (N := (some 34)) (v := ?_) (a' := ?_) #[true, true, true, false, false, false, false, false, false, false, false, false] rfl rfl (by kernel_rfl) (fun _ _ _ h => h) (Or.inl ⟨by rfl, ?_⟩) ?_ ?_
  rotate_left
  · intro w'
    go_simp
    with_reducible rfl
  rotate_left
  · simp only [Act.put, List.setIfInBounds_toArray, List.set_cons_zero, List.set_cons_succ, i64_w, i32_w]
    rfl
  refine pure_ (i := 3) (N := (some 35)) (v := ?_) (a' := ?_) #[true, true, true, true, false, false, false, false, false, false, false, false] rfl rfl (by kernel_rfl) (fun _ _ _ h => h) (Or.inl ⟨by rfl, ?_⟩) ?_ ?_
  rotate_left
  · intro w'
    go_simp
    with_reducible rfl
  rotate_left
  · simp only [Act.put, List.setIfInBounds_toArray, List.set_cons_zero, List.set_cons_succ, i64_w, i32_w]
    rfl
  refine pure_ (i := 5) (N := (some 37)) (v := ?_) (a' := ?_) #[true, true, true, true, false, true, false, false, false, false, false, false] rfl rfl (by kernel_rfl) (fun _ _ _ h => h) (Or.inl ⟨by rfl, ?_⟩) ?_ ?_
  rotate_left
  · intro w'
    go_simp
    with_reducible rfl
  rotate_left
  · simp only [Act.put, List.setIfInBounds_toArray, List.set_cons_zero, List.set_cons_succ, i64_w, i32_w]
    rfl
  refine take_ (i := 4) (N := (some 36)) (v := ?_) (a' := ?_) #[true, true, true, true, true, true, false, false, false, false, false, false] rfl rfl (by kernel_rfl) (fun _ _ _ h => h) (Or.inl ⟨by rfl, ?_⟩) hHeld ?_ ?_
  rotate_left
  · rintro w' s0
    have t2 : w'.cell? ⟨pt, 2, none⟩ = some (.slice A2 T2.rows.length c2) := (blk_cell s0 2).trans rfl
    go_simp
    with_reducible rfl
  rotate_left
  · simp only [Act.put, List.setIfInBounds_toArray, List.set_cons_zero, List.set_cons_succ, i64_w, i32_w]
    rfl
  refine one_ (i := 6) (N := (some 38)) #[true, true, true, true, true, true, true, false, false, false, false, false] rfl rfl (by kernel_rfl) (by decide) (fun K hK => ?_)
  refine goes_ Try.func64 (by kernel_rfl) rfl #[.slice A b.length c] (by rfl) rfl rfl (by simp only [List.map_toArray, List.map_cons, List.map_nil]; rfl) ?_
  refine (clone_bytes A c b _ HCA.out (by have := HL.out; omega)).mono ?_
  rintro e wC ⟨v, rfl, hrv, hbv⟩
  refine ⟨_, rfl, ?_⟩
  obtain ⟨Av, cv, rfl⟩ := Kd.R_slice hrv
  have HRV := Aside0.mk hrv
  have HBV := Aside0.mk hbv
  clear hrv hbv
  refine hK.out _ _ ((HBV.out.block pt (blk_lt HIA.out.blk)).trans HIA.out.blk) (fun hHeld => ?_)
  clear hK K
  refine norm_ (a' := ?_) ?_ ?_
  rotate_left
  · show Act.put _ (some 38) _ = _
    simp only [Act.put, List.setIfInBounds_toArray, List.set_cons_zero, List.set_cons_succ, i64_w, i32_w]
    rfl
  refine one_ (i := 7) (N := (some 39)) #[true, true, true, true, true, true, true, true, false, false, false, false] rfl rfl (by kernel_rfl) (by decide) (fun K hK => ?_)
  refine value_ (w1 := ?_) (v := ?_) (by rfl) rfl ?_ ?_
  rotate_left 2
  · go_simp
    constructor
    · rfl
    · rfl
  refine hK.out _ _ (blk_alloc hHeld _) (fun hHeld => ?_)
  clear hK K
  refine norm_ (a' := ?_) ?_ ?_
  rotate_left
  · show Act.put _ (some 39) _ = _
    simp only [Act.put, List.setIfInBounds_toArray, List.set_cons_zero, List.set_cons_succ, i64_w, i32_w]
    rfl
  refine one_ (i := 8) (N := (some 40)) #[true, true, true, true, true, true, true, true, true, false, false, false] rfl rfl (by kernel_rfl) (by decide) (fun K hK => ?_)
  refine Kd.R_append_step (Kd.slice 5 (Kd.int .u8)) (w0 := wC) 0 (by rfl) (.tmp 36) (.tmp 39) 42 27 (.slice none 0 0) 24 rfl Try.underlying42 info27s rfl (by decide) (by omega) (.slice A2 T2.rows.length c2) T2.rows b [.slice Av b.length cv] (fun k => FR k ∨ WA.heap.size ≤ k) (fun k => WA.heap.size ≤ k) rfl rfl ?aP ?aK ?aF ?aO ?aB ?aS ?aL ?_
  (case aP => exact ⟨_, rfl, Kd.R_mono (Kd.R_lower (Kd.R_bound HRV.out) (Nat.zero_le _)) (fun k hk => hk.2.1)⟩)
  (case aK => exact fun k hk => ⟨Or.inr hk, fun e => by have := HIA.out.lt k (HIA.out.fr k (HIA.out.rows.1 k e.symm)); omega⟩)
  (case aF => exact fun k hk => Or.inr (Nat.le_trans HBV.out.size hk))
  (case aO => exact Kd.R_mono (Kd.R_below HIA.out.rows HBV.out) (fun k hk => Or.inl hk))
  (case aB => exact Below.refl 0 wC)
  (case aS => exact Nat.zero_le _)
  (case aL => have := HIA.out.len; have := HIA.out.room; omega)
  intro v1 wD ho hb2 hgr hat
  obtain ⟨A1, c1, hv⟩ := Kd.R_slice ho
  obtain ⟨nl, hnl⟩ : ∃ nl, (T2.rows ++ [b]).length = nl := ⟨_, rfl⟩
  rw [hnl] at hv
  subst hv
  have HM := Aside0.mk (mid_of HIA.out HBV.out hgr ho HRM.out HL.out HR.out)
  have hblD : wD.heap[pt]? = some (.cells (tabCells T2 (.slice A2 T2.rows.length c2) bm) 100 (0, 0)) := blk_grown ((HBV.out.block pt (blk_lt HIA.out.blk)).trans HIA.out.blk) hgr (fun e => HIA.out.rp (HIA.out.rows.1 pt e.symm))
  have HDS := Aside0.mk (show WA.heap.size ≤ wD.heap.size from Nat.le_trans HBV.out.size hgr.size)
  clear ho hb2 hgr hat
  refine hK.out _ _ hblD (fun hHeld => ?_)
  have r2 : wD.cell? ⟨pt, 2, none⟩ = some (.slice A2 T2.rows.length c2) := (blk_cell hblD 2).trans rfl
  have q2 := blk_frozen hblD 2
  clear hK K
  refine norm_ (a' := ?_) ?_ ?_
  rotate_left
  · show Act.put _ (some 40) _ = _
    simp only [Act.put, List.setIfInBounds_toArray, List.set_cons_zero, List.set_cons_succ, i64_w, i32_w]
    rfl
  refine pure_ (i := 9) (N := (some 41)) (v := ?_) (a' := ?_) #[true, true, true, true, true, true, true, true, true, true, false, false] rfl rfl (by kernel_rfl) (fun _ _ _ h => h) (Or.inl ⟨by rfl, ?_⟩) ?_ ?_
  rotate_left
  · intro w'
    go_simp
    with_reducible rfl
  rotate_left
  · simp only [Act.put, List.setIfInBounds_toArray, List.set_cons_zero, List.set_cons_succ, i64_w, i32_w]
    rfl
  refine pure_ (i := 10) (N := (some 42)) (v := ?_) (a' := ?_) #[true, true, true, true, true, true, true, true, true, true, true, false] rfl rfl (by kernel_rfl) (fun _ _ _ h => h) (Or.inl ⟨by rfl, ?_⟩) ?_ ?_
  rotate_left
  · intro w'
    go_simp
    with_reducible rfl
  rotate_left
  · simp only [Act.put, List.setIfInBounds_toArray, List.set_cons_zero, List.set_cons_succ, i64_w, i32_w]
    rfl
  refine last_ (i := 11) (N := none) #[true, true, true, true, true, true, true, true, true, true, true, true] rfl rfl (by kernel_rfl) (by decide) (fun K hK => ?_)
  refine skip_ (w1 := ?_) (by rfl) rfl ?_ ?_
  rotate_left
  · go_simp
    rfl
  refine hK.out _ _ ?_
  clear hK K
  refine done_ (by kernel_rfl) ?_
  go_wp2
  obtain ⟨wE, hwE⟩ : ∃ wE, wD.setCell ⟨pt, 2, none⟩ (.slice A1 nl c1) = wE := ⟨_, rfl⟩
  obtain ⟨vr1, hvr1⟩ : ∃ vr1, Value.slice A1 nl c1 = vr1 := ⟨_, rfl⟩
  rw [hwE] at HM ⊢
  rw [hvr1] at HM
  clear hvr1 r2 q2 hblD hHeld
  obtain ⟨n, hnn⟩ : ∃ n, T2.rows.length = n := ⟨_, rfl⟩
  have HNN := Aside0.mk hnn
  have hMB := HM.out.1.move (w' := wE.drew) (fun _ _ => rfl) (Nat.le_refl _)
  have hFB := (HFA.out.trans HM.out.2).drew
  have hSB : WA.heap.size ≤ wE.drew.heap.size := HM.out.2.size
  obtain ⟨v, hlk, hown, hfg, hback⟩ := hMB.look s HSL.out
  obtain ⟨zs, hzs⟩ : ∃ zs, idxs T2.bits T2.rows s = zs := ⟨_, rfl⟩
  have HZS := Aside0.mk (show idxs T2.bits T2.rows (stN T2.bits b) = zs from by rw [HSS.out]; exact hzs)
  have HZL := Aside0.mk (show zs.length ≤ n ∧ n ≤ 20000 from ⟨by rw [← hzs, ← hnn]; exact idxs_length _ _ _, by rw [← hnn]; have := HM.out.1.len; have := HM.out.1.room; omega⟩)
  have HZR := Aside0.mk (show ∀ z ∈ zs ++ [(n : Int)], 0 ≤ z ∧ z < 1000000 from fun z hz => by
    have := HZL.out
    rcases List.mem_append.1 hz with h1 | h1
    · rw [← hzs] at h1
      obtain ⟨h2, h3⟩ := idxs_mem h1
      rw [hnn] at h3
      omega
    · rw [List.mem_singleton] at h1
      subst h1
      omega)
  rw [hzs] at hown
  rw [hnn] at hback ⊢
  obtain ⟨vA, vc, rfl, -, -⟩ := ints_slice hown
  clear HM hwE hzs hnn HIA HRV HBV HCA
  go_wp2
  refine start_ (n := 15) (S := fun w' => w'.heap[pt]? = some (.cells (tabCells T2 vr1 bm) 100 (0, 0)) ∧ (Instr.lookup 98 (.map (some bm)) (.int .u64 s) false).run Try.prog w' = .ok (.slice vA zs.length vc) w') (ds := [14]) #[false, false, false, false, false, false, false, false, false, false, false, false, false, false, false] (by kernel_rfl) rfl rfl ⟨hMB.blk, hlk⟩ (fun hHeld => ?_)
  generalize wE.drew = WB at hMB hFB hSB hlk hown hback hHeld ⊢
  have HM := Aside0.mk hMB
  have HFB := Aside0.mk hFB
  have HSB := Aside0.mk hSB
  have HOWN := Aside0.mk hown
  have HBACK := Aside0.mk hback
  have HFG := Aside0.mk hfg
  have HLK := Aside0.mk hlk
  clear hMB hFB hSB hown hback hfg hlk
  refine pure_ (i := 0) (N := (some 43)) (v := ?_) (a' := ?_) #[true, false, false, false, false, false, false, false, false, false, false, false, false, false, false] rfl rfl (by kernel_rfl) (fun _ _ _ h => h) (Or.inl ⟨by rfl, ?_⟩) ?_ ?_
  rotate_left
  · intro w'
    go_simp
    with_reducible rfl
  rotate_left
  · simp only [Act.put, List.setIfInBounds_toArray, List.set_cons_zero, List.set_cons_succ, i64_w, i32_w]
    rfl
  refine pure_ (i := 1) (N := (some 44)) (v := ?_) (a' := ?_) #[true, true, false, false, false, false, false, false, false, false, false, false, false, false, false] rfl rfl (by kernel_rfl) (fun _ _ _ h => h) (Or.inl ⟨by rfl, ?_⟩) ?_ ?_
  rotate_left
  · intro w'
    go_simp
    with_reducible rfl
  rotate_left
  · simp only [Act.put, List.setIfInBounds_toArray, List.set_cons_zero, List.set_cons_succ, i64_w, i32_w]
    rfl
  refine pure_ (i := 2) (N := (some 45)) (v := ?_) (a' := ?_) #[true, true, true, false, false, false, false, false, false, false, false, false, false, false, false] rfl rfl (by kernel_rfl) (fun _ _ _ h => h) (Or.inl ⟨by rfl, ?_⟩) ?_ ?_
  rotate_left
  · intro w'
    go_simp
    with_reducible rfl
  rotate_left
  · simp only [Act.put, List.setIfInBounds_toArray, List.set_cons_zero, List.set_cons_succ, i64_w, i32_w]
    rfl
  refine take_ (i := 3) (N := (some 46)) (v := ?_) (a' := ?_) #[true, true, true, true, false, false, false, false, false, false, false, false, false, false, false] rfl rfl (by kernel_rfl) (fun _ _ _ h => h) (Or.inl ⟨by rfl, ?_⟩) hHeld ?_ ?_
  rotate_left
  · rintro w' ⟨s0, s1⟩
    have t3 : w'.cell? ⟨pt, 3, none⟩ = some (.map (some bm)) := (blk_cell s0 3).trans rfl
    go_simp
    with_reducible rfl
  rotate_left
  · simp only [Act.put, List.setIfInBounds_toArray, List.set_cons_zero, List.set_cons_succ, i64_w, i32_w]
    rfl
  refine pure_ (i := 4) (N := (some 47)) (v := ?_) (a' := ?_) #[true, true, true, true, true, false, false, false, false, false, false, false, false, false, false] rfl rfl (by kernel_rfl) (fun _ _ _ h => h) (Or.inl ⟨by rfl, ?_⟩) ?_ ?_
  rotate_left
  · intro w'
    go_simp
    with_reducible rfl
  rotate_left
  · simp only [Act.put, List.setIfInBounds_toArray, List.set_cons_zero, List.set_cons_succ, i64_w, i32_w]
    rfl
  refine pure_ (i := 5) (N := (some 48)) (v := ?_) (a' := ?_) #[true, true, true, true, true, true, false, false, false, false, false, false, false, false, false] rfl rfl (by kernel_rfl) (fun _ _ _ h => h) (Or.inl ⟨by rfl, ?_⟩) ?_ ?_
  rotate_left
  · intro w'
    go_simp
    with_reducible rfl
  rotate_left
  · simp only [Act.put, List.setIfInBounds_toArray, List.set_cons_zero, List.set_cons_succ, i64_w, i32_w]
    rfl
  refine pure_ (i := 6) (N := (some 49)) (v := ?_) (a' := ?_) #[true, true, true, true, true, true, true, false, false, false, false, false, false, false, false] rfl rfl (by kernel_rfl) (fun _ _ _ h => h) (Or.inl ⟨by rfl, ?_⟩) ?_ ?_
  rotate_left
  · intro w'
    go_simp
    with_reducible rfl
  rotate_left
  · simp only [Act.put, List.setIfInBounds_toArray, List.set_cons_zero, List.set_cons_succ, i64_w, i32_w]
    rfl
  refine pure_ (i := 7) (N := (some 50)) (v := ?_) (a' := ?_) #[true, true, true, true, true, true, true, true, false, false, false, false, false, false, false] rfl rfl (by kernel_rfl) (fun _ _ _ h => h) (Or.inl ⟨by rfl, ?_⟩) ?_ ?_
  rotate_left
  · intro w'
    go_simp
    with_reducible rfl
  rotate_left
  · simp only [Act.put, List.setIfInBounds_toArray, List.set_cons_zero, List.set_cons_succ, i64_w, i32_w]
    rfl
  refine take_ (i := 8) (N := (some 51)) (v := ?_) (a' := ?_) #[true, true, true, true, true, true, true, true, true, false, false, false, false, false, false] rfl rfl (by kernel_rfl) (fun _ _ _ h => h) (Or.inl ⟨by rfl, ?_⟩) hHeld ?_ ?_
  rotate_left
  · rintro w' ⟨s0, s1⟩
    have t3 : w'.cell? ⟨pt, 3, none⟩ = some (.map (some bm)) := (blk_cell s0 3).trans rfl
    go_simp
    with_reducible rfl
  rotate_left
  · simp only [Act.put, List.setIfInBounds_toArray, List.set_cons_zero, List.set_cons_succ, i64_w, i32_w]
    rfl
  refine pure_ (i := 9) (N := (some 52)) (v := ?_) (a' := ?_) #[true, true, true, true, true, true, true, true, true, true, false, false, false, false, false] rfl rfl (by kernel_rfl) (fun _ _ _ h => h) (Or.inl ⟨by rfl, ?_⟩) ?_ ?_
  rotate_left
  · intro w'
    go_simp
    with_reducible rfl
  rotate_left
  · simp only [Act.put, List.setIfInBounds_toArray, List.set_cons_zero, List.set_cons_succ, i64_w, i32_w]
    rfl
  refine pure_ (i := 11) (N := (some 54)) (v := ?_) (a' := ?_) #[true, true, true, true, true, true, true, true, true, true, false, true, false, false, false] rfl rfl (by kernel_rfl) (fun _ _ _ h => h) (Or.inl ⟨by rfl, ?_⟩) ?_ ?_
  rotate_left
  · intro w'
    go_simp
    with_reducible rfl
  rotate_left
  · simp only [Act.put, List.setIfInBounds_toArray, List.set_cons_zero, List.set_cons_succ, i64_w, i32_w]
    rfl
  refine take_ (i := 10) (N := (some 53)) (v := ?_) (a' := ?_) #[true, true, true, true, true, true, true, true, true, true, true, true, false, false, false] rfl rfl (by kernel_rfl) (fun _ _ _ h => h) (Or.inl ⟨by rfl, ?_⟩) hHeld ?_ ?_
  rotate_left
  · rintro w' ⟨s0, s1⟩
    have t3 : w'.cell? ⟨pt, 3, none⟩ = some (.map (some bm)) := (blk_cell s0 3).trans rfl
    go_simp
    with_reducible rfl
  rotate_left
  · simp only [Act.put, List.setIfInBounds_toArray, List.set_cons_zero, List.set_cons_succ, i64_w, i32_w]
    rfl
  refine one_ (i := 12) (N := (some 55)) #[true, true, true, true, true, true, true, true, true, true, true, true, true, false, false] rfl rfl (by kernel_rfl) (by decide) (fun K hK => ?_)
  refine value_ (w1 := ?_) (v := ?_) (by rfl) rfl ?_ ?_
  rotate_left 2
  · go_simp
    constructor
    · rfl
    · rfl
  refine hK.out _ _ ⟨blk_alloc HM.out.blk _, look_same HM.out.grp (Below.heap_alloc WB _ bm (HM.out.lt bm HM.out.fm)) s HSL.out HLK.out⟩ (fun hHeld => ?_)
  clear hK K
  refine norm_ (a' := ?_) ?_ ?_
  rotate_left
  · show Act.put _ (some 55) _ = _
    simp only [Act.put, List.setIfInBounds_toArray, List.set_cons_zero, List.set_cons_succ, i64_w, i32_w]
    rfl
  refine one_ (i := 13) (N := (some 56)) #[true, true, true, true, true, true, true, true, true, true, true, true, true, true, false] rfl rfl (by kernel_rfl) (by decide) (fun K hK => ?_)
  refine Kd.R_append_step (Kd.int .i64) (w0 := WB) (bm + 1) (by rfl) (.tmp 53) (.tmp 55) 101 3 (.int .i64 0) 8 rfl Try.underlying101 info3s rfl (by decide) (by omega) (.slice vA zs.length vc) zs (n : Int) [.int .i64 n] (fun _ => True) (fun _ => False) rfl rfl ?aP (fun _ hk => hk.elim) ?aF ?aO ?aB ?aS ?aL ?_
  (case aP => exact rfl)
  (case aF => exact (fun _ _ => trivial))
  (case aO => exact Kd.R_of_own HOWN.out.1 (fun _ _ => trivial))
  (case aB => exact Below.refl _ WB)
  (case aS => exact HM.out.lt bm HM.out.fm)
  (case aL => have := HZL.out; omega)
  intro vg wF ho hb2 hgr hat
  have hown1 := ints_of_R ho HZR.out
  obtain ⟨wG, hrun, hgG, hgr2⟩ := HBACK.out wF vg (zs ++ [(n : Int)]) hgr hown1 (by have := HZL.out; rw [List.length_append, List.length_singleton]; omega) hat
  have HFIN := Aside0.mk (by have hq := put_of HM.out hgr HFG.out hat (by rw [HZS.out, HNN.out]; exact hown1) (by rw [HSS.out]; exact hrun) (by rw [HZS.out, HNN.out, HSS.out]; exact hgG) hgr2; exact hq)
  have hS9 : wF.heap[pt]? = some (.cells (tabCells T2 vr1 bm) 100 (0, 0)) := (hgr.block pt (HM.out.lt pt HM.out.fp) (fun e => HM.out.gp (HFG.out pt e.symm))).trans HM.out.blk
  have hL9 := look_same HM.out.grp (hgr.block bm (HM.out.lt bm HM.out.fm) (fun e => HM.out.gm (HFG.out bm e.symm))) s HSL.out HLK.out
  have HGS := Aside0.mk (show WB.heap.size ≤ wG.heap.size from Nat.le_trans hgr.size hgr2.size)
  clear ho hb2 hgr hat hown1 hgG hgr2
  refine hK.out _ _ ⟨hS9, hL9⟩ (fun hHeld => ?_)
  clear hK K
  refine norm_ (a' := ?_) ?_ ?_
  rotate_left
  · show Act.put _ (some 56) _ = _
    simp only [Act.put, List.setIfInBounds_toArray, List.set_cons_zero, List.set_cons_succ, i64_w, i32_w]
    rfl
  refine last_ (i := 14) (N := none) #[true, true, true, true, true, true, true, true, true, true, true, true, true, true, true] rfl rfl (by kernel_rfl) (by decide) (fun K hK => ?_)
  refine skip_ (w1 := ?_) (by rfl) rfl ?_ ?_
  rotate_left
  · go_simp
    rfl
  refine hK.out _ _ ?_
  clear hK K
  refine done_ (by kernel_rfl) ?_
  go_wp2
  go_ret2
  have e1 : ({ T.after b with rows := T.rows ++ [b] } : Tab) = { T2 with rows := T2.rows ++ [b] } := by rw [HT2.out, HR1.out]
  have e2 : n = T.rows.length := by rw [← HNN.out, HR1.out]
  refine ⟨by rw [e2]; rfl, HFB.out.trans' HFIN.out.2 (fun k hk h1 => h1.elim id (fun h2 => by have := HFA.out.size; omega)), _, _, _, _, _, ?_, ?_, e1 ▸ HFIN.out.1⟩
  · intro k hk
    rcases hk with (h1 | h1) | h1
    · exact Or.inl h1
    · exact Or.inr (Nat.le_trans HFA.out.size h1.1)
    · exact Or.inr (Nat.le_trans (Nat.le_trans HFA.out.size HSB.out) h1.1)
  · exact fun k hk => Or.inl (Or.inl hk)
end Go.Proofs.Ytdhdofkpgaibiaa.St
namespace Go.Proofs.Ytdhdofkpgaibiaa.St
open Go.RowKit Go.Proofs.YtdhdofkpgaibiaaW.PrintWords Go.Proofs.YtdhdofkpgaibiaaW.PrintLast Go.Proofs.YtdhdofkpgaibiaaW.PrintMore Go.Proofs.Ytdhdofkpgaibiaa.PStampTells
set_option linter.unusedVariables false
set_option linter.unusedSimpArgs false
set_option maxHeartbeats 8000000 in
set_option maxRecDepth 1000000 in
theorem right_nil (w : World) : Calls Try.prog 13 #[.slice none 0 0] w fun e w' => e = .returned (.int .i64 0) ∧ w' = w := by
  go_enter Try.func13, Try.ntmps13
  go_wp2
  refine wp_loop_rounds 1 ?_
  rw [rounds_succ]
  go_wp2
  go_ret
  exact ⟨rfl, rfl⟩
abbrev tcells (nm : ByteArray) : Array Value := #[.string nm, .bool false, .int .i64 0, .int .i64 0, .slice none 0 0]
set_option maxHeartbeats 8000000 in
set_option maxRecDepth 1000000 in
theorem right_one (w : World) (bt : Nat) (nm : ByteArray) (hb : w.heap[bt]? = some (.cells (tcells nm) 89 (0, 0))) : Calls Try.prog 13 #[.slice (some ⟨bt, 0, none⟩) 1 1] w fun e w' => e = .returned (.int .i64 0) ∧ Below w.heap.size w w' := by
  have c0 : w.cell? ⟨bt, 0, none⟩ = some (.string nm) := (blk_cell hb 0).trans rfl
  have c1 : w.cell? ⟨bt, 1, none⟩ = some (.bool false) := (blk_cell hb 1).trans rfl
  have c2 : w.cell? ⟨bt, 2, none⟩ = some (.int .i64 0) := (blk_cell hb 2).trans rfl
  have c3 : w.cell? ⟨bt, 3, none⟩ = some (.int .i64 0) := (blk_cell hb 3).trans rfl
  have c4 : w.cell? ⟨bt, 4, none⟩ = some (.slice none 0 0) := (blk_cell hb 4).trans rfl
  clear hb
  go_enter Try.func13, Try.ntmps13
  go_wp2
  refine wp_loop_rounds 2 ?_
  rw [rounds_succ]
  go_wp2
  rw [rounds_succ]
  go_wp2
  go_ret
  exact ⟨rfl, below_alloc (Below.refl _ _) _⟩
theorem bytes_C (W : World) (s : ByteArray) (hs : s.size ≤ 9223372036854775807) : Kd.C (Kd.int .u8) (Lib.bytesWorld W 5 s) (some ⟨W.heap.size, 0, none⟩) s.size (bytesOf s) :=
  Kd.C_of_reads (d := (0 : Int)) (h1 := fun _ => rfl) (bytes_reads W 5 s hs)
/-- One piece that is a text. -/
theorem piece_str (w0 W : World) (base : Nat) (v : Value) (xs : List Int) (s : ByteArray) (k : Nat) (ps : List Int) (HB : Below base w0 W) (hbase : base ≤ W.heap.size) (HO : Kd.R (Kd.int .u8) 5 W base (fun _ => True) v xs) (hput : word_Put.f k s.size = some ps) (hl : xs.length + ps.length + s.size ≤ 140737488355328) :
    Calls Try.prog 52 #[v, .slice (some ⟨(Lib.bytesWorld W 5 s).heap.size, 0, none⟩) 1 1] ((Lib.bytesWorld W 5 s).alloc (.cells #[.slice (some ⟨W.heap.size, 0, none⟩) s.size (grownCap W s.size 0 5)] 27)) fun e w' => ∃ v', e = .returned v' ∧ Kd.R (Kd.int .u8) 5 w' base (fun _ => True) v' (xs ++ ps ++ bytesOf s) ∧ Below base w0 w' ∧ ∀ j, j < W.heap.size → some j ≠ v.ownBlock → w'.heap[j]? = W.heap[j]? := by
  have hb0 : Below W.heap.size W (Lib.bytesWorld W 5 s) := bytes_below (Below.refl _ _) (Nat.le_refl _) 5 s
  have hb1 := below_alloc hb0 (.cells #[.slice (some ⟨W.heap.size, 0, none⟩) s.size (grownCap W s.size 0 5)] 27)
  have hc := Kd.C_alloc (bytes_C W s (by omega)) (.cells #[.slice (some ⟨W.heap.size, 0, none⟩) s.size (grownCap W s.size 0 5)] 27)
  have hlen := bytesOf_length s
  refine (pieces_one w0 _ base v xs _ (some ⟨W.heap.size, 0, none⟩) (grownCap W s.size 0 5) (bytesOf s) k ps (HB.trans (hb1.mono hbase)) (Nat.le_trans hbase hb1.size) (Kd.R_below HO hb1) ?_ ?_ ?_ ?_ (by rw [hlen]; exact hl)).mono ?_
  rotate_left 4
  · rintro e w' ⟨v', h1, h2, h3, h4⟩
    exact ⟨v', h1, h2, h3, fun j hj hv => (h4 j (Nat.lt_of_lt_of_le hj hb1.size) hv).trans (hb1.block j hj)⟩
  · rw [hlen]; exact heap_alloc_new _ _
  · rw [hlen]; exact hc
  · rintro ad e
    obtain rfl := Option.some.inj e
    refine ⟨by simp [Lib.bytesWorld_size]; omega, fun h => ?_⟩
    have := Kd.R_lt HO _ h.symm
    simp at this
  · rw [hlen]; exact hput
set_option maxHeartbeats 8000000 in
set_option maxRecDepth 1000000 in
theorem bytes_nil (w : World) (s : ByteArray) (k : Nat) (ps : List Int) (hs : s.size ≤ 20000) (hput : word_Put.f k s.size = some ps) (hp : ps.length ≤ 10) : Calls Try.prog 14 #[.string s, .slice none 0 0] w fun e w' => ∃ A c L, L = ps ++ bytesOf s ++ [0] ∧ e = .returned (.tuple #[.slice A L.length L.length, .int .i64 0]) ∧ Kd.R (Kd.int .u8) 5 w' w.heap.size (fun _ => True) (.slice A L.length c) L ∧ Below w.heap.size w w' := by
  have kb := fun W => print_bytes (P := Try.prog) 9 27 5 Try.underlying9 Try.underlying27 Try.underlying5 s W
  have q0 : decide (20000 < (s.size : Int)) = false := decide_eq_false (by omega)
  have q1 := eq_false (show ¬ 20000 < (s.size : Int) by omega)
  have HP := Aside0.mk hput
  have HPL := Aside0.mk hp
  have HS := Aside0.mk hs
  clear hput hp hs
  go_enter Try.func14, Try.ntmps14
  go_wp2_with (first | (go_at_call 13; ((with_reducible refine (right_nil _).mono ?_); rintro e w1 ⟨rfl, rfl⟩)))
  refine (piece_str w1 w1 w1.heap.size (.slice none 0 0) [] s k ps (Below.refl _ _) (Nat.le_refl _) (Kd.R_nil _ _ _ _ _) HP.out (by have := HPL.out; have := HS.out; simp; omega)).mono ?_
  rintro e w2 ⟨v2, rfl, hr, hb, -⟩
  rw [List.nil_append] at hr
  have HO := Aside0.mk hr
  have HB := Aside0.mk hb
  clear hr hb kb q0 q1
  go_wp2_with fail
  refine (word_Put.calls 1 0 [0] _ rfl).mono ?_
  rintro e w3 ⟨v3, rfl, hr, hb⟩
  obtain ⟨A3, c3, hv3⟩ := Kd.R_slice hr
  subst hv3
  have HPR := Aside0.mk (Kd.R_reads' hr)
  have HO1 := Aside0.mk (Kd.R_below HO.out hb)
  have HB1 := Aside0.mk (HB.out.trans (hb.mono HB.out.size))
  have HS1 := Aside0.mk (Nat.le_trans HB.out.size hb.size)
  clear hr hb
  go_wp2_with ((with_reducible refine gate_builtin (b := .append) (xs := #[.tmp 24, .tmp 28]) rfl ?_); at_builtin; refine Kd.R_append_rows (Kd.int .u8) (w0 := w1) w1.heap.size rfl (.tmp 24) (.tmp 28) 27 5 (.int .u8 0) 1 rfl Try.underlying27 info5 rfl (by decide) (by decide) v2 (ps ++ bytesOf s) [0] _ _ _ (fun _ => True) (fun _ => False) rfl rfl HO1.out HPR.out.2.2 ?aM (fun _ h => h.elim) (fun _ _ => trivial) HB1.out HS1.out ?aL ?_; (case aM => intro x cs h; exact h); (case aL => have := HPL.out; have := HS.out; have := bytesOf_length s; simp; omega); intro v4 w4 hr hb hg hat; obtain ⟨L, hL⟩ : ∃ L, ps ++ bytesOf s ++ [0] = L := ⟨_, rfl⟩; rw [hL] at hr; obtain ⟨A4, c4, hv4⟩ := Kd.R_slice hr; subst hv4; have HLL := Aside0.mk hL; clear hL; have HO2 := Aside0.mk hr; have HB2 := Aside0.mk hb; clear hr hb hg hat)
  refine wp_loop_rounds 1 ?_
  rw [rounds_succ]
  go_wp2_with fail
  refine (clip_calls A4 L.length c4 (Kd.R_reads' HO2.out).2.1 ?hn _).mono ?_
  case hn => rw [← HLL.out]; have := HPL.out; have := HS.out; have := bytesOf_length s; simp; omega
  rintro e w5 ⟨rfl, rfl⟩
  go_wp2
  go_ret2
  exact ⟨A4, c4, L, HLL.out.symm, rfl, HO2.out, HB2.out⟩
set_option maxHeartbeats 8000000 in
set_option maxRecDepth 1000000 in
theorem bytes_one (w : World) (s nm : ByteArray) (bt : Nat) (k : Nat) (ps : List Int) (k2 : Nat) (ps2 : List Int) (hs : s.size ≤ 20000) (hput : word_Put.f k s.size = some ps) (hp : ps.length ≤ 10) (hbt : w.heap[bt]? = some (.cells (tcells nm) 89 (0, 0))) (hn : nm.size ≤ 1000000) (hput2 : word_Put.f k2 nm.size = some ps2) (hp2 : ps2.length ≤ 10) : Calls Try.prog 14 #[.string s, .slice (some ⟨bt, 0, none⟩) 1 1] w fun e w' => ∃ A c L, L = ps ++ bytesOf s ++ [1] ++ ps2 ++ bytesOf nm ++ [0] ∧ e = .returned (.tuple #[.slice A L.length L.length, .int .i64 0]) ∧ Kd.R (Kd.int .u8) 5 w' w.heap.size (fun _ => True) (.slice A L.length c) L ∧ Below w.heap.size w w' := by
  have kb := fun W => print_bytes (P := Try.prog) 9 27 5 Try.underlying9 Try.underlying27 Try.underlying5 s W
  have q0 : decide (20000 < (s.size : Int)) = false := decide_eq_false (by omega)
  have q1 := eq_false (show ¬ 20000 < (s.size : Int) by omega)
  have HP := Aside0.mk hput
  have HPL := Aside0.mk hp
  have HS := Aside0.mk hs
  have HT := Aside0.mk hbt
  have HNM := Aside0.mk hn
  have HP2 := Aside0.mk hput2
  have HPL2 := Aside0.mk hp2
  clear hput hp hs hbt hn hput2 hp2
  go_enter Try.func14, Try.ntmps14
  go_wp2_with fail
  refine (right_one _ bt nm HT.out).mono ?_
  rintro e w1 ⟨rfl, hb⟩
  have HB0 := Aside0.mk hb
  clear hb
  go_wp2_with fail
  refine (piece_str w w1 w.heap.size (.slice none 0 0) [] s k ps HB0.out HB0.out.size (Kd.R_nil _ _ _ _ _) HP.out (by have := HPL.out; have := HS.out; simp; omega)).mono ?_
  rintro e w2 ⟨v2, rfl, hr, hb, -⟩
  rw [List.nil_append] at hr
  have HO := Aside0.mk hr
  have HB := Aside0.mk hb
  clear hr hb kb q0 q1
  go_wp2_with fail
  refine (word_Put.calls 1 1 [1] _ rfl).mono ?_
  rintro e w3 ⟨v3, rfl, hr, hb⟩
  obtain ⟨A3, c3, hv3⟩ := Kd.R_slice hr
  subst hv3
  have HPR := Aside0.mk (Kd.R_reads' hr)
  have HO1 := Aside0.mk (Kd.R_below HO.out hb)
  have HB1 := Aside0.mk (HB.out.trans (hb.mono HB.out.size))
  have HS1 := Aside0.mk (Nat.le_trans HB.out.size hb.size)
  clear hr hb
  go_wp2_with ((with_reducible refine gate_builtin (b := .append) (xs := #[.tmp 24, .tmp 28]) rfl ?_); at_builtin; refine Kd.R_append_rows (Kd.int .u8) (w0 := w) w.heap.size rfl (.tmp 24) (.tmp 28) 27 5 (.int .u8 0) 1 rfl Try.underlying27 info5 rfl (by decide) (by decide) v2 (ps ++ bytesOf s) [1] _ _ _ (fun _ => True) (fun _ => False) rfl rfl HO1.out HPR.out.2.2 ?aM (fun _ h => h.elim) (fun _ _ => trivial) HB1.out HS1.out ?aL ?_; (case aM => intro x cs h; exact h); (case aL => have := HPL.out; have := HS.out; have := bytesOf_length s; simp; omega); intro v4 w4 hr hb hg hat; obtain ⟨L, hL⟩ : ∃ L, ps ++ bytesOf s ++ [1] = L := ⟨_, rfl⟩; rw [hL] at hr; have HLL := Aside0.mk hL; clear hL; have HO2 := Aside0.mk hr; have HB2 := Aside0.mk hb; clear hr hb hg hat)
  have HLN := Aside0.mk (show L.length ≤ 20011 by rw [← HLL.out]; have := HPL.out; have := HS.out; have := bytesOf_length s; simp; omega)
  have be := (HB2.out.block _ (blk_lt HT.out)).trans HT.out
  have HT4 := Aside0.mk be
  have c0 : w4.cell? ⟨bt, 0, none⟩ = some (.string nm) := (blk_cell be 0).trans rfl
  have c1 : w4.cell? ⟨bt, 1, none⟩ = some (.bool false) := (blk_cell be 1).trans rfl
  have c2 : w4.cell? ⟨bt, 2, none⟩ = some (.int .i64 0) := (blk_cell be 2).trans rfl
  have c3 : w4.cell? ⟨bt, 3, none⟩ = some (.int .i64 0) := (blk_cell be 3).trans rfl
  have c4 : w4.cell? ⟨bt, 4, none⟩ = some (.slice none 0 0) := (blk_cell be 4).trans rfl
  have kb := fun W => print_bytes (P := Try.prog) 9 27 5 Try.underlying9 Try.underlying27 Try.underlying5 nm W
  clear be
  refine wp_loop_rounds 2 ?_
  rw [rounds_succ]
  go_wp2_with fail
  clear c0 c1 c2 c3 c4 kb
  have hpc := piece_str w (w4.alloc (.cells (tcells nm) 89)) w.heap.size v4 L nm k2 ps2 (below_alloc HB2.out _) (by have := HB2.out.size; simp; omega) (Kd.R_alloc HO2.out _) HP2.out (by have := HPL2.out; have := HNM.out; have := HLN.out; omega)
  rw [World.size_alloc] at hpc
  refine hpc.mono ?_
  rintro e w6 ⟨v6, rfl, hr, hb, hk⟩
  have hn9 := heap_alloc_new w4 (.cells (tcells nm) 89)
  have be := (hk w4.heap.size (by simp) (fun e => by have := Kd.R_lt HO2.out _ e.symm; omega)).trans hn9
  have c1 : w6.cell? ⟨w4.heap.size, 1, none⟩ = some (.bool false) := (blk_cell be 1).trans rfl
  have HO3 := Aside0.mk hr
  have HB3 := Aside0.mk hb
  clear hr hb hk hn9 be
  have HLM := Aside0.mk (show (L ++ ps2 ++ bytesOf nm).length ≤ 2000000 by have := HPL2.out; have := HNM.out; have := HLN.out; have := bytesOf_length nm; simp; omega)
  go_wp2_with ((with_reducible refine gate_builtin (b := .append) (xs := #[.tmp 45, .tmp 46]) rfl ?_); at_builtin; refine Kd.R_append (Kd.int .u8) (w0 := w) w.heap.size rfl (.tmp 45) (.tmp 46) 27 5 (.int .u8 0) 1 rfl Try.underlying27 info5 rfl (by decide) (by decide) v6 (L ++ ps2 ++ bytesOf nm) 0 [.int .u8 0] (fun _ => True) (fun _ => False) rfl rfl ?aP (fun _ hk => hk.elim) (fun _ _ => trivial) HO3.out HB3.out ?aS ?aL ?_; (case aP => exact rfl); (case aS => exact HB3.out.size); (case aL => have := HLM.out; omega); intro v7 w7 hr hb hg hat; obtain ⟨L2, hL2⟩ : ∃ L2, L ++ ps2 ++ bytesOf nm ++ [0] = L2 := ⟨_, rfl⟩; rw [hL2] at hr; obtain ⟨A7, c7, hv7⟩ := Kd.R_slice hr; subst hv7; have HL2 := Aside0.mk hL2; clear hL2; have HO4 := Aside0.mk hr; have HB4 := Aside0.mk hb; clear hr hb hg hat)
  clear c1
  rw [rounds_succ]
  go_wp2_with fail
  refine (clip_calls A7 L2.length c7 (Kd.R_reads' HO4.out).2.1 ?hn _).mono ?_
  case hn => rw [← HL2.out]; have := HLM.out; rw [List.length_append]; simp only [List.length_cons, List.length_nil]; omega
  rintro e w8 ⟨rfl, rfl⟩
  go_wp2
  go_ret2
  exact ⟨A7, c7, L2, by rw [← HL2.out, ← HLL.out], rfl, HO4.out, HB4.out⟩
end Go.Proofs.Ytdhdofkpgaibiaa.St
namespace Go.Proofs.Ytdhdofkpgaibiaa.St
open Go.RowKit Go.Proofs.YtdhdofkpgaibiaaW.PrintWords Go.Proofs.YtdhdofkpgaibiaaW.PrintLast Go.Proofs.YtdhdofkpgaibiaaW.PrintMore Go.Proofs.Ytdhdofkpgaibiaa.PStampTells
open Go.Maps Go.WideElems Go.MapKept Go.ChangeMaps Go.ChangeShapes
set_option linter.unusedVariables false
set_option linter.unusedSimpArgs false
theorem stN_zero (l : List Int) : stN 0 l = 0 := by
  unfold stN
  exact Nat.div_eq_of_lt (digN_lt l)
theorem grp_zero (T : Tab) (b : List Int) (h : T.bits = 0) : T.grp b = (List.range T.rows.length).map (fun i => ((i : Nat) : Int)) := by
  unfold Tab.grp idxs
  rw [h]
  congr 1
  rw [List.filter_eq_self]
  intro i _
  rw [stN_zero, stN_zero]
  rfl
theorem cell_mark (W : World) (C : Array Value) (t : TypeId) (fr : Nat × Nat) (a : Addr) : (W.alloc (.cells C t fr)).cell? a = (W.alloc (.cells C t)).cell? a := by
  unfold World.cell?
  simp only [World.alloc, Array.getElem?_push]
  by_cases h : a.block = W.heap.size
  · simp only [if_pos h]
  · simp only [if_neg h]
theorem lit_row (W : World) (x : Int) : Kd.C (Kd.int .u8) (W.alloc (.cells #[.int .u8 x] 5 (1, 2))) (some ⟨W.heap.size, 0, none⟩) 1 [x] := by
  have h := World.ownsRow_lit (base := W.heap.size) (e := 5) (size := 1) W #[.int .u8 x] 1 (Nat.le_refl _) (by simp [maxLen]) (by simp)
  have hr : Kd.R (Kd.int .u8) 5 (W.alloc (.cells #[.int .u8 x] 5)) W.heap.size (fun _ => True) (.slice (some ⟨W.heap.size, 0, none⟩) 1 1) [x] := Kd.R_of_own h (fun _ _ => trivial)
  have h := (Kd.R_reads' hr).2.2
  refine ⟨h.1, h.2.1, fun hn => ?_⟩
  obtain ⟨ad, e, hc⟩ := h.2.2 hn
  refine ⟨ad, e, fun j p hj => ?_⟩
  obtain ⟨cs, h1, h2, h3⟩ := hc j p hj
  exact ⟨cs, h1, h2, fun i u hu => (cell_mark W _ _ _ _).trans (h3 i u hu)⟩
theorem conv_lit (W : World) (x : Int) : (convert 27 27 (.slice (some ⟨W.heap.size, 0, none⟩) 1 1)).run Try.prog (W.alloc (.cells #[.int .u8 x] 5)) = .ok (.slice (some ⟨W.heap.size, 0, none⟩) 1 1) (W.alloc (.cells #[.int .u8 x] 5 (1, 2))) :=
  Lib.run_convert_bytes_const W 27 5 #[.int .u8 x] 1 1 Try.underlying27 Try.underlying5
theorem Far.alloc {F : Nat → Prop} {w w' : World} (h : Far F w w') (o : Obj) : Far F w (w'.alloc o) := h.trans (Far.of_below (below_alloc (Below.refl _ _) o))
theorem scan_pos (rows : List (List Int)) (b l : List Int) (h : (scan rows b l).2.isSome = true) : 1 ≤ (scan rows b l).1 := by
  cases l with
  | nil => cases h
  | cons n l =>
    unfold scan
    split
    · exact Nat.le_refl _
    · exact Nat.succ_le_succ (Nat.zero_le _)
theorem after_looked (T : Tab) (b : List Int) : (T.after b).looked ≤ T.looked + T.rows.length := by
  have h1 := scan_le T.rows b (T.grp b)
  have h2 := idxs_length T.bits T.rows (stN T.bits b)
  show T.looked + (scan T.rows b (T.grp b)).1 ≤ _
  have h3 : (T.grp b).length ≤ T.rows.length := h2
  omega
theorem after_same (T : Tab) (b : List Int) (h : T.same ≤ T.looked) : (T.after b).same ≤ (T.after b).looked := by
  show T.same + (if (T.find b).isSome then 1 else 0) ≤ T.looked + (scan T.rows b (T.grp b)).1
  split
  · rename_i h1
    have := scan_pos T.rows b (T.grp b) h1
    omega
  · omega
theorem alloc_mark_below (W : World) (o : Obj) : Below W.heap.size W (W.alloc o) := below_alloc (Below.refl _ _) o
theorem put_lit_new (W : World) {pt : Nat} {T : Tab} {F : Nat → Prop} {bm : Nat} {vr : Value} {FR FG : Nat → Prop} {D : DataW Unit} (h : IsT W pt T F bm vr FR FG D) (x : Int) (hx : 0 ≤ x ∧ x < 256) (hlk : T.looked < 4611686018427387904) (hsm : T.same ≤ T.looked) (hn : T.find [x] = none) (hroom : T.rows.length < T.room) :
    Calls Try.prog 22 #[ptr pt, .slice (some ⟨W.heap.size, 0, none⟩) 1 1] (W.alloc (.cells #[.int .u8 x] 5 (1, 2))) fun e w' => e = .returned (.tuple #[.int .i64 T.rows.length, .int .i64 0]) ∧ Far F W w' ∧ ∃ vr' FR' FG' D' F', (∀ k, F' k → F k ∨ W.heap.size ≤ k) ∧ IsT w' pt { T.after [x] with rows := T.rows ++ [[x]] } F' bm vr' FR' FG' D' := by
  have hb := alloc_mark_below W (.cells #[.int .u8 x] 5 (1, 2))
  have hI := h.move (w' := W.alloc (.cells #[.int .u8 x] 5 (1, 2))) (fun k hk => hb.block k (h.lt k hk)) hb.size
  refine (put_new _ hI (some ⟨W.heap.size, 0, none⟩) 1 [x] (lit_row W x) (Nat.le_refl _) (by simp) (by simpa using hx) (fun _ ad e => by obtain rfl := Option.some.inj e; have := h.lt pt h.fp; show W.heap.size ≠ pt; omega) hlk hsm hn hroom).mono ?_
  rintro e w' ⟨h1, h2, vr', FR', FG', D', F', h3, h4, h5⟩
  exact ⟨h1, (Far.of_below hb).trans h2, vr', FR', FG', D', F', fun k hk => (h3 k hk).imp id (fun h6 => Nat.le_trans hb.size h6), h5⟩
theorem put_lit_has (W : World) {pt : Nat} {T : Tab} {F : Nat → Prop} {bm : Nat} {vr : Value} {FR FG : Nat → Prop} {D : DataW Unit} (h : IsT W pt T F bm vr FR FG D) (x : Int) (hx : 0 ≤ x ∧ x < 256) (hlk : T.looked < 4611686018427387904) (hsm : T.same ≤ T.looked) (n : Int) (hn : T.find [x] = some n) :
    Calls Try.prog 22 #[ptr pt, .slice (some ⟨W.heap.size, 0, none⟩) 1 1] (W.alloc (.cells #[.int .u8 x] 5 (1, 2))) fun e w' => e = .returned (.tuple #[.int .i64 n, .int .i64 0]) ∧ Far F W w' ∧ IsT w' pt (T.after [x]) F bm vr FR FG D := by
  have hb := alloc_mark_below W (.cells #[.int .u8 x] 5 (1, 2))
  have hI := h.move (w' := W.alloc (.cells #[.int .u8 x] 5 (1, 2))) (fun k hk => hb.block k (h.lt k hk)) hb.size
  refine (put_has _ hI (some ⟨W.heap.size, 0, none⟩) 1 [x] (lit_row W x) (Nat.le_refl _) (by simp) (by simpa using hx) (fun _ ad e => by obtain rfl := Option.some.inj e; have := h.lt pt h.fp; show W.heap.size ≠ pt; omega) hlk hsm n hn).mono ?_
  rintro e w' ⟨h1, h2, h3⟩
  exact ⟨h1, (Far.of_below hb).trans (h3.mono (fun k e => Or.inl (by subst e; exact h.fp))), h2⟩
set_option maxHeartbeats 8000000 in
set_option maxRecDepth 1000000 in
theorem awake_calls (w : World) : Calls Try.prog 11 #[] w fun e w' => e = .returned (.bool true) ∧ Below w.heap.size w w' := by
  go_enter Try.func11, Try.ntmps11
  go_wp2_with fail
  refine (bytes_nil w ⟨#[97, 98]⟩ 1 [2] (by decide) rfl (by decide)).mono ?_
  rintro e w1 ⟨A1, c1, L1, hL1, rfl, hr, hb⟩
  have HR1 := Aside0.mk hr
  have HB1 := Aside0.mk hb
  have HL1 := Aside0.mk hL1
  clear hr hb hL1
  obtain ⟨n1, hn1⟩ : ∃ n1, L1.length = n1 := ⟨_, rfl⟩
  rw [hn1] at HR1 ⊢
  go_wp2_with fail
  refine (bytes_one _ ⟨#[]⟩ ⟨#[98]⟩ w1.heap.size 1 [0] 1 [1] (by decide) rfl (by decide) (heap_alloc_new w1 _) (by decide) rfl (by decide)).mono ?_
  rintro e w2 ⟨A2, c2, L2, hL2, rfl, hr, hb⟩
  have HR2 := Aside0.mk (Kd.R_lower hr (Nat.zero_le _))
  have HB2 := Aside0.mk ((below_alloc (Below.refl w1.heap.size w1) _).trans (hb.mono (by rw [World.size_alloc]; omega)))
  have HL2 := Aside0.mk hL2
  clear hr hb hL2
  obtain ⟨n2, hn2⟩ : ∃ n2, L2.length = n2 := ⟨_, rfl⟩
  rw [hn2] at HR2 ⊢
  have HRA := Aside0.mk (Kd.R_below (Kd.R_lower HR1.out (Nat.zero_le _)) HB2.out)
  have HBA := Aside0.mk (HB1.out.trans (HB2.out.mono HB1.out.size))
  clear HR1 HB1 HB2
  go_wp2_with fail
  refine (new_calls w2 0 2 (by decide) (by decide) (by decide)).mono ?_
  rintro e w3 ⟨rfl, hI, hb, hs⟩
  obtain ⟨pt, hpt⟩ : ∃ pt, w2.heap.size + 1 = pt := ⟨_, rfl⟩
  rw [hpt] at hI ⊢
  have HI := Aside0.mk hI
  have HB := Aside0.mk hb
  have HFB := Aside0.mk (show ∀ k, (k = w2.heap.size ∨ k = pt) → w2.heap.size ≤ k from fun k hk => by omega)
  clear hI hb hs hpt hn1 hn2
  obtain ⟨T0, hT0⟩ : ∃ T0 : Tab, (⟨0, 2, [], 0, 0⟩ : Tab) = T0 := ⟨_, rfl⟩
  rw [hT0] at HI
  have HT0 := Aside0.mk (show T0.bits = 0 ∧ T0.room = 2 ∧ T0.rows = [] ∧ T0.looked = 0 ∧ T0.same = 0 from by rw [← hT0]; exact ⟨rfl, rfl, rfl, rfl, rfl⟩)
  have HN0 := Aside0.mk (show T0.find [120] = none from by rw [← hT0]; rfl)
  clear hT0
  have hcv := conv_lit w3 120
  go_wp2_with fail
  refine (put_lit_new w3 HI.out 120 (by decide) (by rw [HT0.out.2.2.2.1]; decide) (by rw [HT0.out.2.2.2.1, HT0.out.2.2.2.2]; exact Nat.le_refl _) HN0.out (by rw [HT0.out.2.2.1, HT0.out.2.1]; decide)).mono ?_
  rintro e w4 ⟨rfl, hf, vr4, FR4, FG4, D4, F4, hF4, hI4⟩
  rw [HT0.out.2.2.1]
  have HB4 := Aside0.mk (hf.below HB.out HFB.out HB.out.size)
  have HFB4 := Aside0.mk (show ∀ k, F4 k → w2.heap.size ≤ k from fun k hk => (hF4 k hk).elim (HFB.out k) (fun h1 => Nat.le_trans HB.out.size h1))
  obtain ⟨T1, hT1⟩ : ∃ T1 : Tab, ({ T0.after [120] with rows := T0.rows ++ [[120]] } : Tab) = T1 := ⟨_, rfl⟩
  rw [hT1] at hI4
  have HT1 := Aside0.mk (show T1.bits = 0 ∧ T1.room = 2 ∧ T1.rows = [[120]] ∧ T1.looked ≤ 0 ∧ T1.same ≤ T1.looked from by
    rw [← hT1]
    have h1 := after_looked T0 [120]
    have h2 := after_same T0 [120] (by rw [HT0.out.2.2.2.1, HT0.out.2.2.2.2]; exact Nat.le_refl _)
    rw [HT0.out.2.2.2.1, HT0.out.2.2.1] at h1
    exact ⟨HT0.out.1, HT0.out.2.1, by rw [HT0.out.2.2.1]; rfl, h1, h2⟩)
  have HN1 := Aside0.mk (show T1.find [121] = none from by
    unfold Tab.find
    rw [grp_zero T1 [121] HT1.out.1, HT1.out.2.2.1]
    rfl)
  have HI4 := Aside0.mk hI4
  clear hT1 HI HB HFB hf hF4 hI4 HN0 hcv
  have hcv := conv_lit w4 121
  go_wp2_with fail
  refine (put_lit_new w4 HI4.out 121 (by decide) (by have := HT1.out.2.2.2.1; omega) HT1.out.2.2.2.2 HN1.out (by rw [HT1.out.2.2.1, HT1.out.2.1]; decide)).mono ?_
  rintro e w5 ⟨rfl, hf, vr5, FR5, FG5, D5, F5, hF5, hI5⟩
  rw [HT1.out.2.2.1]
  have HB5 := Aside0.mk (hf.below HB4.out HFB4.out HB4.out.size)
  have HFB5 := Aside0.mk (show ∀ k, F5 k → w2.heap.size ≤ k from fun k hk => (hF5 k hk).elim (HFB4.out k) (fun h1 => Nat.le_trans HB4.out.size h1))
  obtain ⟨T2, hT2⟩ : ∃ T2 : Tab, ({ T1.after [121] with rows := T1.rows ++ [[121]] } : Tab) = T2 := ⟨_, rfl⟩
  rw [hT2] at hI5
  have HT2 := Aside0.mk (show T2.bits = 0 ∧ T2.room = 2 ∧ T2.rows = [[120], [121]] ∧ T2.looked ≤ 1 ∧ T2.same ≤ T2.looked from by
    rw [← hT2]
    have h1 := after_looked T1 [121]
    have h2 := after_same T1 [121] HT1.out.2.2.2.2
    have h3 := HT1.out.2.2.2.1
    have h4 : T1.rows.length = 1 := by rw [HT1.out.2.2.1]; rfl
    exact ⟨HT1.out.1, HT1.out.2.1, by rw [HT1.out.2.2.1]; rfl, by show (T1.after [121]).looked ≤ 1; omega, h2⟩)
  have HN2 := Aside0.mk (show T2.find [120] = some 0 from by
    unfold Tab.find
    rw [grp_zero T2 [120] HT2.out.1, HT2.out.2.2.1]
    rfl)
  have HI5 := Aside0.mk hI5
  clear hT2 HI4 HB4 HFB4 hf hF5 hI5 HN1 hcv
  have hcv := conv_lit w5 120
  go_wp2_with fail
  refine (put_lit_has w5 HI5.out 120 (by decide) (by have := HT2.out.2.2.2.1; omega) HT2.out.2.2.2.2 0 HN2.out).mono ?_
  rintro e w6 ⟨rfl, hf, hI6⟩
  have HB6 := Aside0.mk (hf.below HB5.out HFB5.out HB5.out.size)
  have HI6 := Aside0.mk hI6
  have HLN := Aside0.mk (show ((T2.after [120]).rows.length : Int) = 2 from by show (T2.rows.length : Int) = 2; rw [HT2.out.2.2.1]; rfl)
  clear HI5 HB5 HFB5 hf hI6 hcv
  have hs1 : (convert 27 9 (.slice A1 n1 n1)).run Try.prog w6 = .ok (.string ⟨#[2, 97, 98, 0]⟩) w6 := by
    have h0 := Kd.R_reads' (Kd.R_below (Kd.R_lower HRA.out (Nat.zero_le _)) HB6.out)
    have h1 := h0.2.2
    have e1 : strOfNums L1 = ⟨#[2, 97, 98, 0]⟩ := by rw [HL1.out]; rfl
    have h2 := Kd.C_string (c := L1.length) Try.underlying27 Try.underlying5 Try.underlying9 h1
    rw [e1] at h2
    rw [h0.1]
    exact h2
  have hs2 : (convert 27 9 (.slice A2 n2 n2)).run Try.prog w6 = .ok (.string ⟨#[0, 1, 1, 98, 0]⟩) w6 := by
    have h0 := Kd.R_reads' (Kd.R_below (Kd.R_lower HR2.out (Nat.zero_le _)) HB6.out)
    have h1 := h0.2.2
    have e1 : strOfNums L2 = ⟨#[0, 1, 1, 98, 0]⟩ := by rw [HL2.out]; rfl
    have h2 := Kd.C_string (c := L2.length) Try.underlying27 Try.underlying5 Try.underlying9 h1
    rw [e1] at h2
    rw [h0.1]
    exact h2
  go_wp2_with fail
  refine (len_calls w6 HI6.out).mono ?_
  rintro e w7 ⟨rfl, rfl⟩
  rw [HLN.out]
  go_wp2
  go_ret
  exact ⟨rfl, HBA.out.trans (HB6.out.mono HBA.out.size)⟩
end Go.Proofs.Ytdhdofkpgaibiaa.St
