/- (*Table).Put. Printed by gen/StPut.py. -/
import Derived.Test.YtgfokmgbphhpjaaStPutP
namespace Go.Proofs.Ytgfokmgbphhpjaa.St
open Go.RowKit Go.Proofs.YtgfokmgbphhpjaaW.PrintWords Go.Proofs.YtgfokmgbphhpjaaW.PrintLast Go.Proofs.YtgfokmgbphhpjaaW.PrintMore Go.Proofs.Ytgfokmgbphhpjaa.PStampKeeps
open Go.Maps Go.WideElems Go.MapKept Go.ChangeMaps Go.ChangeShapes
set_option linter.unusedVariables false
set_option linter.unusedSimpArgs false
theorem info27s : (Try.prog.info? 27).map (fun i => (i.zero, i.size, i.bytes)) = some (some (.slice none 0 0), 1, 24) := by kernel_rfl
theorem info3s : (Try.prog.info? 3).map (fun i => (i.zero, i.size, i.bytes)) = some (some (.int .i64 0), 1, 8) := by kernel_rfl
theorem Far.trans' {F G : Nat → Prop} {w w1 w2 : World} (h : Far F w w1) (h' : Far G w1 w2) (hg : ∀ k, k < w.heap.size → G k → F k) : Far F w w2 := ⟨h'.os.trans h.os, h'.tape.trans h.tape, h'.output.trans h.output, Nat.le_trans h.size h'.size, fun k hk hn => (h'.block k (Nat.lt_of_lt_of_le hk h.size) (fun hG => hn (hg k hk hG))).trans (h.block k hk hn)⟩
theorem ints_of_R {w : World} {base : Nat} {v : Value} {zs : List Int} (h : Kd.R (Kd.int .i64) 3 w base (fun _ => True) v zs) (hz : ∀ z ∈ zs, 0 ≤ z ∧ z < 1000000) : w.ownsInts base 3 .i64 v zs :=
  ⟨Kd.own_of_R h, fun z hz' => by
    obtain ⟨h0, h1⟩ := hz z hz'
    simp [Lit.wf, IntKind.min, IntKind.max, IntKind.signed, IntKind.bits]; omega⟩
set_option maxHeartbeats 4000000 in
set_option maxRecDepth 1000000 in
theorem put_has (w : World) {pt : Nat} {T : Tab} {F : Nat → Prop} {bm : Nat} {vr : Value} {FR FG : Nat → Prop} {D : DataW Unit} (h : IsT w pt T F bm vr FR FG D) (A : Option Addr) (c : Nat) (b : List Int) (hC : Kd.C (Kd.int .u8) w A b.length b) (hc : b.length ≤ c) (hl : b.length ≤ 140737488351232) (hr : ∀ x ∈ b, 0 ≤ x ∧ x < 256) (hA : b ≠ [] → ∀ ad, A = some ad → ad.block ≠ pt) (hlk : T.looked < 4611686018427387904) (hsm : T.same ≤ T.looked) (n : Int) (hn : T.find b = some n) :
    Calls Try.prog 21 #[ptr pt, .slice A b.length c] w fun e w' => e = .returned (.tuple #[.int .i64 n, .int .i64 0]) ∧ IsT w' pt (T.after b) F bm vr FR FG D ∧ Far (fun k => k = pt) w w' := by
  go_enter Try.func21, Try.ntmps21
  go_wp2_with fail
  refine (find_calls w h A c b hC hc hl hr hA hlk hsm).mono ?_
  rintro e w2 ⟨rfl, hI, hF, hS⟩
  rw [hn]
  simp only [Option.getD_some, Option.isSome_some]
  clear h hC hc hl hr hA hlk hsm hS
  have HI := Aside0.mk hI
  have HF := Aside0.mk hF
  clear hI hF
  go_wp2
  go_ret2
  exact ⟨rfl, HI.out, HF.out⟩
set_option maxHeartbeats 4000000 in
set_option maxRecDepth 1000000 in
theorem put_full (w : World) {pt : Nat} {T : Tab} {F : Nat → Prop} {bm : Nat} {vr : Value} {FR FG : Nat → Prop} {D : DataW Unit} (h : IsT w pt T F bm vr FR FG D) (A : Option Addr) (c : Nat) (b : List Int) (hC : Kd.C (Kd.int .u8) w A b.length b) (hc : b.length ≤ c) (hl : b.length ≤ 140737488351232) (hr : ∀ x ∈ b, 0 ≤ x ∧ x < 256) (hA : b ≠ [] → ∀ ad, A = some ad → ad.block ≠ pt) (hlk : T.looked < 4611686018427387904) (hsm : T.same ≤ T.looked) (hn : T.find b = none) (hfull : T.room ≤ T.rows.length) :
    Calls Try.prog 21 #[ptr pt, .slice A b.length c] w fun e w' => e = .returned (.tuple #[.int .i64 0, .int .i64 60]) ∧ IsT w' pt (T.after b) F bm vr FR FG D ∧ Far (fun k => k = pt) w w' := by
  obtain ⟨A2, c2, rfl⟩ := Kd.R_slice h.rows
  have p0 : decide ((T.room : Int) ≤ (T.rows.length : Int)) = true := decide_eq_true (by omega)
  have q0 := eq_true (show (T.room : Int) ≤ (T.rows.length : Int) by omega)
  go_enter Try.func21, Try.ntmps21
  go_wp2_with fail
  refine (find_calls w h A c b hC hc hl hr hA hlk hsm).mono ?_
  rintro e w2 ⟨rfl, hI, hF, hS⟩
  rw [hn]
  simp only [Option.getD_none, Option.isSome_none]
  have k1 : w2.cell? ⟨pt, 1, none⟩ = some (.int .i64 T.room) := (blk_cell hI.blk 1).trans rfl
  have k2 : w2.cell? ⟨pt, 2, none⟩ = some (.slice A2 T.rows.length c2) := (blk_cell hI.blk 2).trans rfl
  clear h hC hc hl hr hA hlk hsm hS
  have HI := Aside0.mk hI
  have HF := Aside0.mk hF
  clear hI hF
  go_wp2
  go_ret2
  exact ⟨rfl, HI.out, HF.out⟩
theorem row_far {q : IntKind} {w w1 : World} {A : Option Addr} {n : Nat} {xs : List Int} (h : Kd.C (Kd.int q) w A n xs) (hm : ∀ ad, A = some ad → ad.block < w.heap.size → w1.heap[ad.block]? = w.heap[ad.block]?) : Kd.C (Kd.int q) w1 A n xs := by
  refine ⟨h.1, h.2.1, fun hn => ?_⟩
  obtain ⟨ad, e, hc⟩ := h.2.2 hn
  refine ⟨ad, e, fun j p hj => ?_⟩
  obtain ⟨cs, h1, h2, h3⟩ := hc j p hj
  refine ⟨cs, h1, h2, fun i u hu => ?_⟩
  have h4 := h3 i u hu
  have hb : ∀ k, (ad.add k).block = ad.block := fun k => by unfold Addr.add; split <;> rfl
  have hlt := World.block_lt_of_cell? w _ h4
  rw [hb] at hlt
  rw [← h4]
  exact World.cell?_of_block (by rw [hb]; exact hm ad e hlt)
theorem row_far' {q : IntKind} {w w1 : World} {A : Option Addr} {n : Nat} {xs : List Int} (h : Kd.C (Kd.int q) w A n xs) (hm : xs ≠ [] → ∀ ad, A = some ad → ad.block < w.heap.size → w1.heap[ad.block]? = w.heap[ad.block]?) : Kd.C (Kd.int q) w1 A n xs := by
  by_cases e : xs = []
  · subst e
    exact ⟨h.1, h.2.1, fun hn => absurd hn (by have := h.1; simp at this; omega)⟩
  · exact row_far h (hm e)
set_option maxHeartbeats 8000000 in
set_option maxRecDepth 1000000 in
theorem put_new (w : World) {pt : Nat} {T : Tab} {F : Nat → Prop} {bm : Nat} {vr : Value} {FR FG : Nat → Prop} {D : DataW Unit} (h : IsT w pt T F bm vr FR FG D) (A : Option Addr) (c : Nat) (b : List Int) (hC : Kd.C (Kd.int .u8) w A b.length b) (hc : b.length ≤ c) (hl : b.length ≤ 140737488351232) (hr : ∀ x ∈ b, 0 ≤ x ∧ x < 256) (hA : b ≠ [] → ∀ ad, A = some ad → ad.block ≠ pt) (hlk : T.looked < 4611686018427387904) (hsm : T.same ≤ T.looked) (hn : T.find b = none) (hroom : T.rows.length < T.room) :
    Calls Try.prog 21 #[ptr pt, .slice A b.length c] w fun e w' => e = .returned (.tuple #[.int .i64 T.rows.length, .int .i64 0]) ∧ Far F w w' ∧ ∃ vr' FR' FG' D' F', (∀ k, F' k → F k ∨ w.heap.size ≤ k) ∧ (∀ k, F k → F' k) ∧ IsT w' pt { T.after b with rows := T.rows ++ [b] } F' bm vr' FR' FG' D' := by
  obtain ⟨A2, c2, rfl⟩ := Kd.R_slice h.rows
  have HC := Aside0.mk hC
  have HCC := Aside0.mk hc
  have HL := Aside0.mk hl
  have HR := Aside0.mk hr
  have HA := Aside0.mk hA
  go_enter Try.func21, Try.ntmps21
  go_wp2_with fail
  refine (find_calls w h A c b hC hc hl hr hA hlk hsm).mono ?_
  rintro e w2 ⟨rfl, hI, hF, hS⟩
  rw [hn]
  simp only [Option.getD_none, Option.isSome_none]
  have hCC := row_far' (w1 := w2) hC (fun hne ad e hlt => hF.block ad.block hlt (hA hne ad e))
  have hr1 : (T.after b).rows = T.rows := rfl
  have hr2 : (T.after b).room = T.room := rfl
  obtain ⟨T2, hT2⟩ : ∃ T2, T.after b = T2 := ⟨_, rfl⟩
  have HT2 := Aside0.mk hT2
  rw [hT2] at hI hr1 hr2
  have HR1 := Aside0.mk hr1
  rw [← hr1] at hI hroom
  rw [← hr2] at hroom
  clear h hC hc hl hr hA hlk hsm hn hT2 hr1 hr2
  have k1 : w2.cell? ⟨pt, 1, none⟩ = some (.int .i64 T2.room) := (blk_cell hI.blk 1).trans rfl
  have k2 : w2.cell? ⟨pt, 2, none⟩ = some (.slice A2 T2.rows.length c2) := (blk_cell hI.blk 2).trans rfl
  have p0 : decide ((T2.room : Int) ≤ (T2.rows.length : Int)) = false := decide_eq_false (by omega)
  have q0 := eq_false (show ¬ (T2.room : Int) ≤ (T2.rows.length : Int) by omega)
  have HI := Aside0.mk hI
  have HF := Aside0.mk (hF.mono (G := F) (fun k e => Or.inl (by subst e; exact hI.fp)))
  have HC2 := Aside0.mk hCC
  have HRM := Aside0.mk hroom
  have HS2 := Aside0.mk hS
  clear hI hF hCC hroom hS HC
  go_wp2_with fail
  refine (stamp_calls _ pt T2.bits HI.out.bits A c b HC2.out HCC.out HL.out HR.out ((blk_cell HI.out.blk 0).trans rfl)).mono ?_
  rintro e w3 ⟨rfl, hd⟩
  obtain ⟨nd, rfl⟩ := hd.out
  have HI3 := Aside0.mk (HI.out.move (w' := w2.drewN nd) (fun _ _ => rfl) (Nat.le_refl _))
  have HF3 := Aside0.mk (HF.out.drewN nd)
  have HC3 := Aside0.mk (Kd.C_drewN HC2.out nd)
  clear HI HF HC2 hd k1 k2 p0 q0
  obtain ⟨w3, hw3⟩ : ∃ w3, w2.drewN nd = w3 := ⟨_, rfl⟩
  rw [hw3] at HI3 HF3 HC3 ⊢
  clear hw3
  obtain ⟨s, hs⟩ : ∃ s, stN T2.bits b = s := ⟨_, rfl⟩
  have HSS := Aside0.mk hs
  have HSL := Aside0.mk (show s < 18446744073709551616 from hs ▸ stN_lt T2.bits b)
  rw [hs]
  clear hs
  go_wp2
  refine start_ (n := 12) (S := fun w' => w'.heap[pt]? = some (.cells (tabCells T2 (.slice A2 T2.rows.length c2) bm) 81 (0, 0))) (ds := [11]) #[false, false, false, false, false, false, false, false, false, false, false, false] (by kernel_rfl) rfl rfl HI3.out.blk (fun hHeld => ?_)
  have hIA := HI3.out.move (w' := w3.drew) (fun _ _ => rfl) (Nat.le_refl _)
  have hFA := HF3.out.drew
  have hCA := Kd.C_drew HC3.out
  clear HI3 HF3 HC3
  generalize w3.drew = WA at hIA hFA hCA hHeld ⊢
  have HIA := Aside0.mk hIA
  have HFA := Aside0.mk hFA
  have HCA := Aside0.mk hCA
  clear hIA hFA hCA
  refine pure_ (i := 0) (N := (some 32)) (v := ?_) (a' := ?_) #[true, false, false, false, false, false, false, false, false, false, false, false] rfl rfl (by kernel_rfl) (fun _ _ _ h => h) (Or.inl ⟨by rfl, ?_⟩) ?_ ?_
  rotate_left
  · intro w'
    go_simp
    with_reducible rfl
  rotate_left
  · simp only [Act.put, List.setIfInBounds_toArray, List.set_cons_zero, List.set_cons_succ, i64_w, i32_w]
    rfl
  refine pure_ (i := 1) (N := (some 33)) (v := ?_) (a' := ?_) #[true, true, false, false, false, false, false, false, false, false, false, false] rfl rfl (by kernel_rfl) (fun _ _ _ h => h) (Or.inl ⟨by rfl, ?_⟩) ?_ ?_
  rotate_left
  · intro w'
    go_simp
    with_reducible rfl
  rotate_left
  · simp only [Act.put, List.setIfInBounds_toArray, List.set_cons_zero, List.set_cons_succ, i64_w, i32_w]
    rfl
  refine pure_ (i := 2) (N := (some 34)) (v := ?_) (a' := ?_) #[true, true, true, false, false, false, false, false, false, false, false, false] rfl rfl (by kernel_rfl) (fun _ _ _ h => h) (Or.inl ⟨by rfl, ?_⟩) ?_ ?_
  rotate_left
  · intro w'
    go_simp
    with_reducible rfl
  rotate_left
  · simp only [Act.put, List.setIfInBounds_toArray, List.set_cons_zero, List.set_cons_succ, i64_w, i32_w]
    rfl
  refine pure_ (i := 3) (N := (some 35)) (v := ?_) (a' := ?_) #[true, true, true, true, false, false, false, false, false, false, false, false] rfl rfl (by kernel_rfl) (fun _ _ _ h => h) (Or.inl ⟨by rfl, ?_⟩) ?_ ?_
  rotate_left
  · intro w'
    go_simp
    with_reducible rfl
  rotate_left
  · simp only [Act.put, List.setIfInBounds_toArray, List.set_cons_zero, List.set_cons_succ, i64_w, i32_w]
    rfl
  refine pure_ (i := 5) (N := (some 37)) (v := ?_) (a' := ?_) #[true, true, true, true, false, true, false, false, false, false, false, false] rfl rfl (by kernel_rfl) (fun _ _ _ h => h) (Or.inl ⟨by rfl, ?_⟩) ?_ ?_
  rotate_left
  · intro w'
    go_simp
    with_reducible rfl
  rotate_left
  · simp only [Act.put, List.setIfInBounds_toArray, List.set_cons_zero, List.set_cons_succ, i64_w, i32_w]
    rfl
  refine take_ (i := 4) (N := (some 36)) (v := ?_) (a' := ?_) #[true, true, true, true, true, true, false, false, false, false, false, false] rfl rfl (by kernel_rfl) (fun _ _ _ h => h) (Or.inl ⟨by rfl, ?_⟩) hHeld ?_ ?_
  rotate_left
  · rintro w' s0
    have t2 : w'.cell? ⟨pt, 2, none⟩ = some (.slice A2 T2.rows.length c2) := (blk_cell s0 2).trans rfl
    go_simp
    with_reducible rfl
  rotate_left
  · simp only [Act.put, List.setIfInBounds_toArray, List.set_cons_zero, List.set_cons_succ, i64_w, i32_w]
    rfl
  refine one_ (i := 6) (N := (some 38)) #[true, true, true, true, true, true, true, false, false, false, false, false] rfl rfl (by kernel_rfl) (by decide) (fun K hK => ?_)
  refine goes_ Try.func48 (by kernel_rfl) rfl #[.slice A b.length c] (by rfl) rfl rfl (by simp only [List.map_toArray, List.map_cons, List.map_nil]; rfl) ?_
  refine (clone_bytes A c b _ HCA.out (by have := HL.out; omega)).mono ?_
  rintro e wC ⟨v, rfl, hrv, hbv⟩
  refine ⟨_, rfl, ?_⟩
  obtain ⟨Av, cv, rfl⟩ := Kd.R_slice hrv
  have HRV := Aside0.mk hrv
  have HBV := Aside0.mk hbv
  clear hrv hbv
  refine hK.out _ _ ((HBV.out.block pt (blk_lt HIA.out.blk)).trans HIA.out.blk) (fun hHeld => ?_)
  clear hK K
  refine norm_ (a' := ?_) ?_ ?_
  rotate_left
  · show Act.put _ (some 38) _ = _
    simp only [Act.put, List.setIfInBounds_toArray, List.set_cons_zero, List.set_cons_succ, i64_w, i32_w]
    rfl
  refine one_ (i := 7) (N := (some 39)) #[true, true, true, true, true, true, true, true, false, false, false, false] rfl rfl (by kernel_rfl) (by decide) (fun K hK => ?_)
  refine value_ (w1 := ?_) (v := ?_) (by rfl) rfl ?_ ?_
  rotate_left 2
  · go_simp
    constructor
    · rfl
    · rfl
  refine hK.out _ _ (blk_alloc hHeld _) (fun hHeld => ?_)
  clear hK K
  refine norm_ (a' := ?_) ?_ ?_
  rotate_left
  · show Act.put _ (some 39) _ = _
    simp only [Act.put, List.setIfInBounds_toArray, List.set_cons_zero, List.set_cons_succ, i64_w, i32_w]
    rfl
  refine one_ (i := 8) (N := (some 40)) #[true, true, true, true, true, true, true, true, true, false, false, false] rfl rfl (by kernel_rfl) (by decide) (fun K hK => ?_)
  refine Kd.R_append_step (Kd.slice 5 (Kd.int .u8)) (w0 := wC) 0 (by rfl) (.tmp 36) (.tmp 39) 35 27 (.slice none 0 0) 24 rfl Try.underlying35 info27s rfl (by decide) (by omega) (.slice A2 T2.rows.length c2) T2.rows b [.slice Av b.length cv] (fun k => FR k ∨ WA.heap.size ≤ k) (fun k => WA.heap.size ≤ k) rfl rfl ?aP ?aK ?aF ?aO ?aB ?aS ?aL ?_
  (case aP => exact ⟨_, rfl, Kd.R_mono (Kd.R_lower (Kd.R_bound HRV.out) (Nat.zero_le _)) (fun k hk => hk.2.1)⟩)
  (case aK => exact fun k hk => ⟨Or.inr hk, fun e => by have := HIA.out.lt k (HIA.out.fr k (HIA.out.rows.1 k e.symm)); omega⟩)
  (case aF => exact fun k hk => Or.inr (Nat.le_trans HBV.out.size hk))
  (case aO => exact Kd.R_mono (Kd.R_below HIA.out.rows HBV.out) (fun k hk => Or.inl hk))
  (case aB => exact Below.refl 0 wC)
  (case aS => exact Nat.zero_le _)
  (case aL => have := HIA.out.len; have := HIA.out.room; omega)
  intro v1 wD ho hb2 hgr hat
  obtain ⟨A1, c1, hv⟩ := Kd.R_slice ho
  obtain ⟨nl, hnl⟩ : ∃ nl, (T2.rows ++ [b]).length = nl := ⟨_, rfl⟩
  rw [hnl] at hv
  subst hv
  have HM := Aside0.mk (mid_of HIA.out HBV.out hgr ho HRM.out HL.out HR.out)
  have hblD : wD.heap[pt]? = some (.cells (tabCells T2 (.slice A2 T2.rows.length c2) bm) 81 (0, 0)) := blk_grown ((HBV.out.block pt (blk_lt HIA.out.blk)).trans HIA.out.blk) hgr (fun e => HIA.out.rp (HIA.out.rows.1 pt e.symm))
  have HDS := Aside0.mk (show WA.heap.size ≤ wD.heap.size from Nat.le_trans HBV.out.size hgr.size)
  clear ho hb2 hgr hat
  refine hK.out _ _ hblD (fun hHeld => ?_)
  have r2 : wD.cell? ⟨pt, 2, none⟩ = some (.slice A2 T2.rows.length c2) := (blk_cell hblD 2).trans rfl
  have q2 := blk_frozen hblD 2
  clear hK K
  refine norm_ (a' := ?_) ?_ ?_
  rotate_left
  · show Act.put _ (some 40) _ = _
    simp only [Act.put, List.setIfInBounds_toArray, List.set_cons_zero, List.set_cons_succ, i64_w, i32_w]
    rfl
  refine pure_ (i := 9) (N := (some 41)) (v := ?_) (a' := ?_) #[true, true, true, true, true, true, true, true, true, true, false, false] rfl rfl (by kernel_rfl) (fun _ _ _ h => h) (Or.inl ⟨by rfl, ?_⟩) ?_ ?_
  rotate_left
  · intro w'
    go_simp
    with_reducible rfl
  rotate_left
  · simp only [Act.put, List.setIfInBounds_toArray, List.set_cons_zero, List.set_cons_succ, i64_w, i32_w]
    rfl
  refine pure_ (i := 10) (N := (some 42)) (v := ?_) (a' := ?_) #[true, true, true, true, true, true, true, true, true, true, true, false] rfl rfl (by kernel_rfl) (fun _ _ _ h => h) (Or.inl ⟨by rfl, ?_⟩) ?_ ?_
  rotate_left
  · intro w'
    go_simp
    with_reducible rfl
  rotate_left
  · simp only [Act.put, List.setIfInBounds_toArray, List.set_cons_zero, List.set_cons_succ, i64_w, i32_w]
    rfl
  refine last_ (i := 11) (N := none) #[true, true, true, true, true, true, true, true, true, true, true, true] rfl rfl (by kernel_rfl) (by decide) (fun K hK => ?_)
  refine skip_ (w1 := ?_) (by rfl) rfl ?_ ?_
  rotate_left
  · go_simp
    rfl
  refine hK.out _ _ ?_
  clear hK K
  refine done_ (by kernel_rfl) ?_
  go_wp2
  obtain ⟨wE, hwE⟩ : ∃ wE, wD.setCell ⟨pt, 2, none⟩ (.slice A1 nl c1) = wE := ⟨_, rfl⟩
  obtain ⟨vr1, hvr1⟩ : ∃ vr1, Value.slice A1 nl c1 = vr1 := ⟨_, rfl⟩
  rw [hwE] at HM ⊢
  rw [hvr1] at HM
  clear hvr1 r2 q2 hblD hHeld
  obtain ⟨n, hnn⟩ : ∃ n, T2.rows.length = n := ⟨_, rfl⟩
  have HNN := Aside0.mk hnn
  have hMB := HM.out.1.move (w' := wE.drew) (fun _ _ => rfl) (Nat.le_refl _)
  have hFB := (HFA.out.trans HM.out.2).drew
  have hSB : WA.heap.size ≤ wE.drew.heap.size := HM.out.2.size
  obtain ⟨v, hlk, hown, hfg, hback⟩ := hMB.look s HSL.out
  obtain ⟨zs, hzs⟩ : ∃ zs, idxs T2.bits T2.rows s = zs := ⟨_, rfl⟩
  have HZS := Aside0.mk (show idxs T2.bits T2.rows (stN T2.bits b) = zs from by rw [HSS.out]; exact hzs)
  have HZL := Aside0.mk (show zs.length ≤ n ∧ n ≤ 20000 from ⟨by rw [← hzs, ← hnn]; exact idxs_length _ _ _, by rw [← hnn]; have := HM.out.1.len; have := HM.out.1.room; omega⟩)
  have HZR := Aside0.mk (show ∀ z ∈ zs ++ [(n : Int)], 0 ≤ z ∧ z < 1000000 from fun z hz => by
    have := HZL.out
    rcases List.mem_append.1 hz with h1 | h1
    · rw [← hzs] at h1
      obtain ⟨h2, h3⟩ := idxs_mem h1
      rw [hnn] at h3
      omega
    · rw [List.mem_singleton] at h1
      subst h1
      omega)
  rw [hzs] at hown
  rw [hnn] at hback ⊢
  obtain ⟨vA, vc, rfl, -, -⟩ := ints_slice hown
  clear HM hwE hzs hnn HIA HRV HBV HCA
  go_wp2
  refine start_ (n := 15) (S := fun w' => w'.heap[pt]? = some (.cells (tabCells T2 vr1 bm) 81 (0, 0)) ∧ (Instr.lookup 79 (.map (some bm)) (.int .u64 s) false).run Try.prog w' = .ok (.slice vA zs.length vc) w') (ds := [14]) #[false, false, false, false, false, false, false, false, false, false, false, false, false, false, false] (by kernel_rfl) rfl rfl ⟨hMB.blk, hlk⟩ (fun hHeld => ?_)
  generalize wE.drew = WB at hMB hFB hSB hlk hown hback hHeld ⊢
  have HM := Aside0.mk hMB
  have HFB := Aside0.mk hFB
  have HSB := Aside0.mk hSB
  have HOWN := Aside0.mk hown
  have HBACK := Aside0.mk hback
  have HFG := Aside0.mk hfg
  have HLK := Aside0.mk hlk
  clear hMB hFB hSB hown hback hfg hlk
  refine pure_ (i := 0) (N := (some 43)) (v := ?_) (a' := ?_) #[true, false, false, false, false, false, false, false, false, false, false, false, false, false, false] rfl rfl (by kernel_rfl) (fun _ _ _ h => h) (Or.inl ⟨by rfl, ?_⟩) ?_ ?_
  rotate_left
  · intro w'
    go_simp
    with_reducible rfl
  rotate_left
  · simp only [Act.put, List.setIfInBounds_toArray, List.set_cons_zero, List.set_cons_succ, i64_w, i32_w]
    rfl
  refine pure_ (i := 1) (N := (some 44)) (v := ?_) (a' := ?_) #[true, true, false, false, false, false, false, false, false, false, false, false, false, false, false] rfl rfl (by kernel_rfl) (fun _ _ _ h => h) (Or.inl ⟨by rfl, ?_⟩) ?_ ?_
  rotate_left
  · intro w'
    go_simp
    with_reducible rfl
  rotate_left
  · simp only [Act.put, List.setIfInBounds_toArray, List.set_cons_zero, List.set_cons_succ, i64_w, i32_w]
    rfl
  refine pure_ (i := 2) (N := (some 45)) (v := ?_) (a' := ?_) #[true, true, true, false, false, false, false, false, false, false, false, false, false, false, false] rfl rfl (by kernel_rfl) (fun _ _ _ h => h) (Or.inl ⟨by rfl, ?_⟩) ?_ ?_
  rotate_left
  · intro w'
    go_simp
    with_reducible rfl
  rotate_left
  · simp only [Act.put, List.setIfInBounds_toArray, List.set_cons_zero, List.set_cons_succ, i64_w, i32_w]
    rfl
  refine take_ (i := 3) (N := (some 46)) (v := ?_) (a' := ?_) #[true, true, true, true, false, false, false, false, false, false, false, false, false, false, false] rfl rfl (by kernel_rfl) (fun _ _ _ h => h) (Or.inl ⟨by rfl, ?_⟩) hHeld ?_ ?_
  rotate_left
  · rintro w' ⟨s0, s1⟩
    have t3 : w'.cell? ⟨pt, 3, none⟩ = some (.map (some bm)) := (blk_cell s0 3).trans rfl
    go_simp
    with_reducible rfl
  rotate_left
  · simp only [Act.put, List.setIfInBounds_toArray, List.set_cons_zero, List.set_cons_succ, i64_w, i32_w]
    rfl
  refine pure_ (i := 4) (N := (some 47)) (v := ?_) (a' := ?_) #[true, true, true, true, true, false, false, false, false, false, false, false, false, false, false] rfl rfl (by kernel_rfl) (fun _ _ _ h => h) (Or.inl ⟨by rfl, ?_⟩) ?_ ?_
  rotate_left
  · intro w'
    go_simp
    with_reducible rfl
  rotate_left
  · simp only [Act.put, List.setIfInBounds_toArray, List.set_cons_zero, List.set_cons_succ, i64_w, i32_w]
    rfl
  refine pure_ (i := 5) (N := (some 48)) (v := ?_) (a' := ?_) #[true, true, true, true, true, true, false, false, false, false, false, false, false, false, false] rfl rfl (by kernel_rfl) (fun _ _ _ h => h) (Or.inl ⟨by rfl, ?_⟩) ?_ ?_
  rotate_left
  · intro w'
    go_simp
    with_reducible rfl
  rotate_left
  · simp only [Act.put, List.setIfInBounds_toArray, List.set_cons_zero, List.set_cons_succ, i64_w, i32_w]
    rfl
  refine pure_ (i := 6) (N := (some 49)) (v := ?_) (a' := ?_) #[true, true, true, true, true, true, true, false, false, false, false, false, false, false, false] rfl rfl (by kernel_rfl) (fun _ _ _ h => h) (Or.inl ⟨by rfl, ?_⟩) ?_ ?_
  rotate_left
  · intro w'
    go_simp
    with_reducible rfl
  rotate_left
  · simp only [Act.put, List.setIfInBounds_toArray, List.set_cons_zero, List.set_cons_succ, i64_w, i32_w]
    rfl
  refine pure_ (i := 7) (N := (some 50)) (v := ?_) (a' := ?_) #[true, true, true, true, true, true, true, true, false, false, false, false, false, false, false] rfl rfl (by kernel_rfl) (fun _ _ _ h => h) (Or.inl ⟨by rfl, ?_⟩) ?_ ?_
  rotate_left
  · intro w'
    go_simp
    with_reducible rfl
  rotate_left
  · simp only [Act.put, List.setIfInBounds_toArray, List.set_cons_zero, List.set_cons_succ, i64_w, i32_w]
    rfl
  refine take_ (i := 8) (N := (some 51)) (v := ?_) (a' := ?_) #[true, true, true, true, true, true, true, true, true, false, false, false, false, false, false] rfl rfl (by kernel_rfl) (fun _ _ _ h => h) (Or.inl ⟨by rfl, ?_⟩) hHeld ?_ ?_
  rotate_left
  · rintro w' ⟨s0, s1⟩
    have t3 : w'.cell? ⟨pt, 3, none⟩ = some (.map (some bm)) := (blk_cell s0 3).trans rfl
    go_simp
    with_reducible rfl
  rotate_left
  · simp only [Act.put, List.setIfInBounds_toArray, List.set_cons_zero, List.set_cons_succ, i64_w, i32_w]
    rfl
  refine pure_ (i := 9) (N := (some 52)) (v := ?_) (a' := ?_) #[true, true, true, true, true, true, true, true, true, true, false, false, false, false, false] rfl rfl (by kernel_rfl) (fun _ _ _ h => h) (Or.inl ⟨by rfl, ?_⟩) ?_ ?_
  rotate_left
  · intro w'
    go_simp
    with_reducible rfl
  rotate_left
  · simp only [Act.put, List.setIfInBounds_toArray, List.set_cons_zero, List.set_cons_succ, i64_w, i32_w]
    rfl
  refine pure_ (i := 11) (N := (some 54)) (v := ?_) (a' := ?_) #[true, true, true, true, true, true, true, true, true, true, false, true, false, false, false] rfl rfl (by kernel_rfl) (fun _ _ _ h => h) (Or.inl ⟨by rfl, ?_⟩) ?_ ?_
  rotate_left
  · intro w'
    go_simp
    with_reducible rfl
  rotate_left
  · simp only [Act.put, List.setIfInBounds_toArray, List.set_cons_zero, List.set_cons_succ, i64_w, i32_w]
    rfl
  refine take_ (i := 10) (N := (some 53)) (v := ?_) (a' := ?_) #[true, true, true, true, true, true, true, true, true, true, true, true, false, false, false] rfl rfl (by kernel_rfl) (fun _ _ _ h => h) (Or.inl ⟨by rfl, ?_⟩) hHeld ?_ ?_
  rotate_left
  · rintro w' ⟨s0, s1⟩
    have t3 : w'.cell? ⟨pt, 3, none⟩ = some (.map (some bm)) := (blk_cell s0 3).trans rfl
    go_simp
    with_reducible rfl
  rotate_left
  · simp only [Act.put, List.setIfInBounds_toArray, List.set_cons_zero, List.set_cons_succ, i64_w, i32_w]
    rfl
  refine one_ (i := 12) (N := (some 55)) #[true, true, true, true, true, true, true, true, true, true, true, true, true, false, false] rfl rfl (by kernel_rfl) (by decide) (fun K hK => ?_)
  refine value_ (w1 := ?_) (v := ?_) (by rfl) rfl ?_ ?_
  rotate_left 2
  · go_simp
    constructor
    · rfl
    · rfl
  refine hK.out _ _ ⟨blk_alloc HM.out.blk _, look_same HM.out.grp (Below.heap_alloc WB _ bm (HM.out.lt bm HM.out.fm)) s HSL.out HLK.out⟩ (fun hHeld => ?_)
  clear hK K
  refine norm_ (a' := ?_) ?_ ?_
  rotate_left
  · show Act.put _ (some 55) _ = _
    simp only [Act.put, List.setIfInBounds_toArray, List.set_cons_zero, List.set_cons_succ, i64_w, i32_w]
    rfl
  refine one_ (i := 13) (N := (some 56)) #[true, true, true, true, true, true, true, true, true, true, true, true, true, true, false] rfl rfl (by kernel_rfl) (by decide) (fun K hK => ?_)
  refine Kd.R_append_step (Kd.int .i64) (w0 := WB) (bm + 1) (by rfl) (.tmp 53) (.tmp 55) 82 3 (.int .i64 0) 8 rfl Try.underlying82 info3s rfl (by decide) (by omega) (.slice vA zs.length vc) zs (n : Int) [.int .i64 n] (fun _ => True) (fun _ => False) rfl rfl ?aP (fun _ hk => hk.elim) ?aF ?aO ?aB ?aS ?aL ?_
  (case aP => exact rfl)
  (case aF => exact (fun _ _ => trivial))
  (case aO => exact Kd.R_of_own HOWN.out.1 (fun _ _ => trivial))
  (case aB => exact Below.refl _ WB)
  (case aS => exact HM.out.lt bm HM.out.fm)
  (case aL => have := HZL.out; omega)
  intro vg wF ho hb2 hgr hat
  have hown1 := ints_of_R ho HZR.out
  obtain ⟨wG, hrun, hgG, hgr2⟩ := HBACK.out wF vg (zs ++ [(n : Int)]) hgr hown1 (by have := HZL.out; rw [List.length_append, List.length_singleton]; omega) hat
  have HFIN := Aside0.mk (by have hq := put_of HM.out hgr HFG.out hat (by rw [HZS.out, HNN.out]; exact hown1) (by rw [HSS.out]; exact hrun) (by rw [HZS.out, HNN.out, HSS.out]; exact hgG) hgr2; exact hq)
  have hS9 : wF.heap[pt]? = some (.cells (tabCells T2 vr1 bm) 81 (0, 0)) := (hgr.block pt (HM.out.lt pt HM.out.fp) (fun e => HM.out.gp (HFG.out pt e.symm))).trans HM.out.blk
  have hL9 := look_same HM.out.grp (hgr.block bm (HM.out.lt bm HM.out.fm) (fun e => HM.out.gm (HFG.out bm e.symm))) s HSL.out HLK.out
  have HGS := Aside0.mk (show WB.heap.size ≤ wG.heap.size from Nat.le_trans hgr.size hgr2.size)
  clear ho hb2 hgr hat hown1 hgG hgr2
  refine hK.out _ _ ⟨hS9, hL9⟩ (fun hHeld => ?_)
  clear hK K
  refine norm_ (a' := ?_) ?_ ?_
  rotate_left
  · show Act.put _ (some 56) _ = _
    simp only [Act.put, List.setIfInBounds_toArray, List.set_cons_zero, List.set_cons_succ, i64_w, i32_w]
    rfl
  refine last_ (i := 14) (N := none) #[true, true, true, true, true, true, true, true, true, true, true, true, true, true, true] rfl rfl (by kernel_rfl) (by decide) (fun K hK => ?_)
  refine skip_ (w1 := ?_) (by rfl) rfl ?_ ?_
  rotate_left
  · go_simp
    rfl
  refine hK.out _ _ ?_
  clear hK K
  refine done_ (by kernel_rfl) ?_
  go_wp2
  go_ret2
  have e1 : ({ T.after b with rows := T.rows ++ [b] } : Tab) = { T2 with rows := T2.rows ++ [b] } := by rw [HT2.out, HR1.out]
  have e2 : n = T.rows.length := by rw [← HNN.out, HR1.out]
  refine ⟨by rw [e2]; rfl, HFB.out.trans' HFIN.out.2 (fun k hk h1 => h1.elim id (fun h2 => by have := HFA.out.size; omega)), _, _, _, _, _, ?_, ?_, e1 ▸ HFIN.out.1⟩
  · intro k hk
    rcases hk with (h1 | h1) | h1
    · exact Or.inl h1
    · exact Or.inr (Nat.le_trans HFA.out.size h1.1)
    · exact Or.inr (Nat.le_trans (Nat.le_trans HFA.out.size HSB.out) h1.1)
  · exact fun k hk => Or.inl (Or.inl hk)
end Go.Proofs.Ytgfokmgbphhpjaa.St
