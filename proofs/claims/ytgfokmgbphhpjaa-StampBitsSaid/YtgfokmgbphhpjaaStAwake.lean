/- The chapter's examples. -/
import Derived.Test.YtgfokmgbphhpjaaStPut
import Derived.Test.YtgfokmgbphhpjaaStAwakeB
import Derived.Lib.SlBytesConst
namespace Go.Proofs.Ytgfokmgbphhpjaa.St
open Go.RowKit Go.Proofs.YtgfokmgbphhpjaaW.PrintWords Go.Proofs.YtgfokmgbphhpjaaW.PrintLast Go.Proofs.YtgfokmgbphhpjaaW.PrintMore Go.Proofs.Ytgfokmgbphhpjaa.PStampKeeps
open Go.Maps Go.WideElems Go.MapKept Go.ChangeMaps Go.ChangeShapes
set_option linter.unusedVariables false
set_option linter.unusedSimpArgs false
theorem stN_zero (l : List Int) : stN 0 l = 0 := by
  unfold stN
  exact Nat.div_eq_of_lt (digN_lt l)
theorem grp_zero (T : Tab) (b : List Int) (h : T.bits = 0) : T.grp b = (List.range T.rows.length).map (fun i => ((i : Nat) : Int)) := by
  unfold Tab.grp idxs
  rw [h]
  congr 1
  rw [List.filter_eq_self]
  intro i _
  rw [stN_zero, stN_zero]
  rfl
theorem cell_mark (W : World) (C : Array Value) (t : TypeId) (fr : Nat × Nat) (a : Addr) : (W.alloc (.cells C t fr)).cell? a = (W.alloc (.cells C t)).cell? a := by
  unfold World.cell?
  simp only [World.alloc, Array.getElem?_push]
  by_cases h : a.block = W.heap.size
  · simp only [if_pos h]
  · simp only [if_neg h]
theorem lit_row (W : World) (x : Int) : Kd.C (Kd.int .u8) (W.alloc (.cells #[.int .u8 x] 5 (1, 2))) (some ⟨W.heap.size, 0, none⟩) 1 [x] := by
  have h := World.ownsRow_lit (base := W.heap.size) (e := 5) (size := 1) W #[.int .u8 x] 1 (Nat.le_refl _) (by simp [maxLen]) (by simp)
  have hr : Kd.R (Kd.int .u8) 5 (W.alloc (.cells #[.int .u8 x] 5)) W.heap.size (fun _ => True) (.slice (some ⟨W.heap.size, 0, none⟩) 1 1) [x] := Kd.R_of_own h (fun _ _ => trivial)
  have h := (Kd.R_reads' hr).2.2
  refine ⟨h.1, h.2.1, fun hn => ?_⟩
  obtain ⟨ad, e, hc⟩ := h.2.2 hn
  refine ⟨ad, e, fun j p hj => ?_⟩
  obtain ⟨cs, h1, h2, h3⟩ := hc j p hj
  exact ⟨cs, h1, h2, fun i u hu => (cell_mark W _ _ _ _).trans (h3 i u hu)⟩
theorem conv_lit (W : World) (x : Int) : (convert 27 27 (.slice (some ⟨W.heap.size, 0, none⟩) 1 1)).run Try.prog (W.alloc (.cells #[.int .u8 x] 5)) = .ok (.slice (some ⟨W.heap.size, 0, none⟩) 1 1) (W.alloc (.cells #[.int .u8 x] 5 (1, 2))) :=
  Lib.run_convert_bytes_const W 27 5 #[.int .u8 x] 1 1 Try.underlying27 Try.underlying5
theorem Far.alloc {F : Nat → Prop} {w w' : World} (h : Far F w w') (o : Obj) : Far F w (w'.alloc o) := h.trans (Far.of_below (below_alloc (Below.refl _ _) o))
theorem scan_pos (rows : List (List Int)) (b l : List Int) (h : (scan rows b l).2.isSome = true) : 1 ≤ (scan rows b l).1 := by
  cases l with
  | nil => cases h
  | cons n l =>
    unfold scan
    split
    · exact Nat.le_refl _
    · exact Nat.succ_le_succ (Nat.zero_le _)
theorem after_looked (T : Tab) (b : List Int) : (T.after b).looked ≤ T.looked + T.rows.length := by
  have h1 := scan_le T.rows b (T.grp b)
  have h2 := idxs_length T.bits T.rows (stN T.bits b)
  show T.looked + (scan T.rows b (T.grp b)).1 ≤ _
  have h3 : (T.grp b).length ≤ T.rows.length := h2
  omega
theorem after_same (T : Tab) (b : List Int) (h : T.same ≤ T.looked) : (T.after b).same ≤ (T.after b).looked := by
  show T.same + (if (T.find b).isSome then 1 else 0) ≤ T.looked + (scan T.rows b (T.grp b)).1
  split
  · rename_i h1
    have := scan_pos T.rows b (T.grp b) h1
    omega
  · omega
theorem alloc_mark_below (W : World) (o : Obj) : Below W.heap.size W (W.alloc o) := below_alloc (Below.refl _ _) o
theorem put_lit_new (W : World) {pt : Nat} {T : Tab} {F : Nat → Prop} {bm : Nat} {vr : Value} {FR FG : Nat → Prop} {D : DataW Unit} (h : IsT W pt T F bm vr FR FG D) (x : Int) (hx : 0 ≤ x ∧ x < 256) (hlk : T.looked < 4611686018427387904) (hsm : T.same ≤ T.looked) (hn : T.find [x] = none) (hroom : T.rows.length < T.room) :
    Calls Try.prog 21 #[ptr pt, .slice (some ⟨W.heap.size, 0, none⟩) 1 1] (W.alloc (.cells #[.int .u8 x] 5 (1, 2))) fun e w' => e = .returned (.tuple #[.int .i64 T.rows.length, .int .i64 0]) ∧ Far F W w' ∧ ∃ vr' FR' FG' D' F', (∀ k, F' k → F k ∨ W.heap.size ≤ k) ∧ IsT w' pt { T.after [x] with rows := T.rows ++ [[x]] } F' bm vr' FR' FG' D' := by
  have hb := alloc_mark_below W (.cells #[.int .u8 x] 5 (1, 2))
  have hI := h.move (w' := W.alloc (.cells #[.int .u8 x] 5 (1, 2))) (fun k hk => hb.block k (h.lt k hk)) hb.size
  refine (put_new _ hI (some ⟨W.heap.size, 0, none⟩) 1 [x] (lit_row W x) (Nat.le_refl _) (by simp) (by simpa using hx) (fun _ ad e => by obtain rfl := Option.some.inj e; have := h.lt pt h.fp; show W.heap.size ≠ pt; omega) hlk hsm hn hroom).mono ?_
  rintro e w' ⟨h1, h2, vr', FR', FG', D', F', h3, h4, h5⟩
  exact ⟨h1, (Far.of_below hb).trans h2, vr', FR', FG', D', F', fun k hk => (h3 k hk).imp id (fun h6 => Nat.le_trans hb.size h6), h5⟩
theorem put_lit_has (W : World) {pt : Nat} {T : Tab} {F : Nat → Prop} {bm : Nat} {vr : Value} {FR FG : Nat → Prop} {D : DataW Unit} (h : IsT W pt T F bm vr FR FG D) (x : Int) (hx : 0 ≤ x ∧ x < 256) (hlk : T.looked < 4611686018427387904) (hsm : T.same ≤ T.looked) (n : Int) (hn : T.find [x] = some n) :
    Calls Try.prog 21 #[ptr pt, .slice (some ⟨W.heap.size, 0, none⟩) 1 1] (W.alloc (.cells #[.int .u8 x] 5 (1, 2))) fun e w' => e = .returned (.tuple #[.int .i64 n, .int .i64 0]) ∧ Far F W w' ∧ IsT w' pt (T.after [x]) F bm vr FR FG D := by
  have hb := alloc_mark_below W (.cells #[.int .u8 x] 5 (1, 2))
  have hI := h.move (w' := W.alloc (.cells #[.int .u8 x] 5 (1, 2))) (fun k hk => hb.block k (h.lt k hk)) hb.size
  refine (put_has _ hI (some ⟨W.heap.size, 0, none⟩) 1 [x] (lit_row W x) (Nat.le_refl _) (by simp) (by simpa using hx) (fun _ ad e => by obtain rfl := Option.some.inj e; have := h.lt pt h.fp; show W.heap.size ≠ pt; omega) hlk hsm n hn).mono ?_
  rintro e w' ⟨h1, h2, h3⟩
  exact ⟨h1, (Far.of_below hb).trans (h3.mono (fun k e => Or.inl (by subst e; exact h.fp))), h2⟩
set_option maxHeartbeats 8000000 in
set_option maxRecDepth 1000000 in
theorem awake_calls (w : World) : Calls Try.prog 9 #[] w fun e w' => e = .returned (.bool true) ∧ Below w.heap.size w w' := by
  go_enter Try.func9, Try.ntmps9
  go_wp2_with fail
  refine (bytes_nil w ⟨#[97, 98]⟩ 1 [2] (by decide) rfl (by decide)).mono ?_
  rintro e w1 ⟨A1, c1, L1, hL1, rfl, hr, hb⟩
  have HR1 := Aside0.mk hr
  have HB1 := Aside0.mk hb
  have HL1 := Aside0.mk hL1
  clear hr hb hL1
  obtain ⟨n1, hn1⟩ : ∃ n1, L1.length = n1 := ⟨_, rfl⟩
  rw [hn1] at HR1 ⊢
  go_wp2_with fail
  refine (bytes_one _ ⟨#[]⟩ ⟨#[98]⟩ w1.heap.size 1 [0] 1 [1] (by decide) rfl (by decide) (heap_alloc_new w1 _) (by decide) rfl (by decide)).mono ?_
  rintro e w2 ⟨A2, c2, L2, hL2, rfl, hr, hb⟩
  have HR2 := Aside0.mk (Kd.R_lower hr (Nat.zero_le _))
  have HB2 := Aside0.mk ((below_alloc (Below.refl w1.heap.size w1) _).trans (hb.mono (by rw [World.size_alloc]; omega)))
  have HL2 := Aside0.mk hL2
  clear hr hb hL2
  obtain ⟨n2, hn2⟩ : ∃ n2, L2.length = n2 := ⟨_, rfl⟩
  rw [hn2] at HR2 ⊢
  have HRA := Aside0.mk (Kd.R_below (Kd.R_lower HR1.out (Nat.zero_le _)) HB2.out)
  have HBA := Aside0.mk (HB1.out.trans (HB2.out.mono HB1.out.size))
  clear HR1 HB1 HB2
  go_wp2_with fail
  refine (new_calls w2 0 2 (by decide) (by decide) (by decide)).mono ?_
  rintro e w3 ⟨rfl, hI, hb, hs⟩
  obtain ⟨pt, hpt⟩ : ∃ pt, w2.heap.size + 1 = pt := ⟨_, rfl⟩
  rw [hpt] at hI ⊢
  have HI := Aside0.mk hI
  have HB := Aside0.mk hb
  have HFB := Aside0.mk (show ∀ k, (k = w2.heap.size ∨ k = pt) → w2.heap.size ≤ k from fun k hk => by omega)
  clear hI hb hs hpt hn1 hn2
  obtain ⟨T0, hT0⟩ : ∃ T0 : Tab, (⟨0, 2, [], 0, 0⟩ : Tab) = T0 := ⟨_, rfl⟩
  rw [hT0] at HI
  have HT0 := Aside0.mk (show T0.bits = 0 ∧ T0.room = 2 ∧ T0.rows = [] ∧ T0.looked = 0 ∧ T0.same = 0 from by rw [← hT0]; exact ⟨rfl, rfl, rfl, rfl, rfl⟩)
  have HN0 := Aside0.mk (show T0.find [120] = none from by rw [← hT0]; rfl)
  clear hT0
  have hcv := conv_lit w3 120
  go_wp2_with fail
  refine (put_lit_new w3 HI.out 120 (by decide) (by rw [HT0.out.2.2.2.1]; decide) (by rw [HT0.out.2.2.2.1, HT0.out.2.2.2.2]; exact Nat.le_refl _) HN0.out (by rw [HT0.out.2.2.1, HT0.out.2.1]; decide)).mono ?_
  rintro e w4 ⟨rfl, hf, vr4, FR4, FG4, D4, F4, hF4, hI4⟩
  rw [HT0.out.2.2.1]
  have HB4 := Aside0.mk (hf.below HB.out HFB.out HB.out.size)
  have HFB4 := Aside0.mk (show ∀ k, F4 k → w2.heap.size ≤ k from fun k hk => (hF4 k hk).elim (HFB.out k) (fun h1 => Nat.le_trans HB.out.size h1))
  obtain ⟨T1, hT1⟩ : ∃ T1 : Tab, ({ T0.after [120] with rows := T0.rows ++ [[120]] } : Tab) = T1 := ⟨_, rfl⟩
  rw [hT1] at hI4
  have HT1 := Aside0.mk (show T1.bits = 0 ∧ T1.room = 2 ∧ T1.rows = [[120]] ∧ T1.looked ≤ 0 ∧ T1.same ≤ T1.looked from by
    rw [← hT1]
    have h1 := after_looked T0 [120]
    have h2 := after_same T0 [120] (by rw [HT0.out.2.2.2.1, HT0.out.2.2.2.2]; exact Nat.le_refl _)
    rw [HT0.out.2.2.2.1, HT0.out.2.2.1] at h1
    exact ⟨HT0.out.1, HT0.out.2.1, by rw [HT0.out.2.2.1]; rfl, h1, h2⟩)
  have HN1 := Aside0.mk (show T1.find [121] = none from by
    unfold Tab.find
    rw [grp_zero T1 [121] HT1.out.1, HT1.out.2.2.1]
    rfl)
  have HI4 := Aside0.mk hI4
  clear hT1 HI HB HFB hf hF4 hI4 HN0 hcv
  have hcv := conv_lit w4 121
  go_wp2_with fail
  refine (put_lit_new w4 HI4.out 121 (by decide) (by have := HT1.out.2.2.2.1; omega) HT1.out.2.2.2.2 HN1.out (by rw [HT1.out.2.2.1, HT1.out.2.1]; decide)).mono ?_
  rintro e w5 ⟨rfl, hf, vr5, FR5, FG5, D5, F5, hF5, hI5⟩
  rw [HT1.out.2.2.1]
  have HB5 := Aside0.mk (hf.below HB4.out HFB4.out HB4.out.size)
  have HFB5 := Aside0.mk (show ∀ k, F5 k → w2.heap.size ≤ k from fun k hk => (hF5 k hk).elim (HFB4.out k) (fun h1 => Nat.le_trans HB4.out.size h1))
  obtain ⟨T2, hT2⟩ : ∃ T2 : Tab, ({ T1.after [121] with rows := T1.rows ++ [[121]] } : Tab) = T2 := ⟨_, rfl⟩
  rw [hT2] at hI5
  have HT2 := Aside0.mk (show T2.bits = 0 ∧ T2.room = 2 ∧ T2.rows = [[120], [121]] ∧ T2.looked ≤ 1 ∧ T2.same ≤ T2.looked from by
    rw [← hT2]
    have h1 := after_looked T1 [121]
    have h2 := after_same T1 [121] HT1.out.2.2.2.2
    have h3 := HT1.out.2.2.2.1
    have h4 : T1.rows.length = 1 := by rw [HT1.out.2.2.1]; rfl
    exact ⟨HT1.out.1, HT1.out.2.1, by rw [HT1.out.2.2.1]; rfl, by show (T1.after [121]).looked ≤ 1; omega, h2⟩)
  have HN2 := Aside0.mk (show T2.find [120] = some 0 from by
    unfold Tab.find
    rw [grp_zero T2 [120] HT2.out.1, HT2.out.2.2.1]
    rfl)
  have HI5 := Aside0.mk hI5
  clear hT2 HI4 HB4 HFB4 hf hF5 hI5 HN1 hcv
  have hcv := conv_lit w5 120
  go_wp2_with fail
  refine (put_lit_has w5 HI5.out 120 (by decide) (by have := HT2.out.2.2.2.1; omega) HT2.out.2.2.2.2 0 HN2.out).mono ?_
  rintro e w6 ⟨rfl, hf, hI6⟩
  have HB6 := Aside0.mk (hf.below HB5.out HFB5.out HB5.out.size)
  have HI6 := Aside0.mk hI6
  have HLN := Aside0.mk (show ((T2.after [120]).rows.length : Int) = 2 from by show (T2.rows.length : Int) = 2; rw [HT2.out.2.2.1]; rfl)
  clear HI5 HB5 HFB5 hf hI6 hcv
  have hs1 : (convert 27 9 (.slice A1 n1 n1)).run Try.prog w6 = .ok (.string ⟨#[2, 97, 98, 0]⟩) w6 := by
    have h0 := Kd.R_reads' (Kd.R_below (Kd.R_lower HRA.out (Nat.zero_le _)) HB6.out)
    have h1 := h0.2.2
    have e1 : strOfNums L1 = ⟨#[2, 97, 98, 0]⟩ := by rw [HL1.out]; rfl
    have h2 := Kd.C_string (c := L1.length) Try.underlying27 Try.underlying5 Try.underlying9 h1
    rw [e1] at h2
    rw [h0.1]
    exact h2
  have hs2 : (convert 27 9 (.slice A2 n2 n2)).run Try.prog w6 = .ok (.string ⟨#[0, 1, 1, 98, 0]⟩) w6 := by
    have h0 := Kd.R_reads' (Kd.R_below (Kd.R_lower HR2.out (Nat.zero_le _)) HB6.out)
    have h1 := h0.2.2
    have e1 : strOfNums L2 = ⟨#[0, 1, 1, 98, 0]⟩ := by rw [HL2.out]; rfl
    have h2 := Kd.C_string (c := L2.length) Try.underlying27 Try.underlying5 Try.underlying9 h1
    rw [e1] at h2
    rw [h0.1]
    exact h2
  go_wp2_with fail
  refine (len_calls w6 HI6.out).mono ?_
  rintro e w7 ⟨rfl, rfl⟩
  rw [HLN.out]
  go_wp2
  go_ret
  exact ⟨rfl, HBA.out.trans (HB6.out.mono HBA.out.size)⟩
end Go.Proofs.Ytgfokmgbphhpjaa.St
