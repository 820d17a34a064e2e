/- Rows of bytes: a copy, a clip, one piece behind how many bytes it has. -/
import Derived.Test.YtgfokmgbphhpjaaPStampKeepsx3
import Derived.WalkSpells
import Derived.Outline
namespace Go.Proofs.Ytgfokmgbphhpjaa.St
open Go.RowKit Go.Proofs.YtgfokmgbphhpjaaW.PrintWords Go.Proofs.YtgfokmgbphhpjaaW.PrintLast Go.Proofs.YtgfokmgbphhpjaaW.PrintMore Go.Proofs.Ytgfokmgbphhpjaa.PStampKeeps
set_option linter.unusedVariables false
set_option linter.unusedSimpArgs false
theorem empty_row {α : Type} (d : Kd α) (W : World) (e : TypeId) : d.R e (W.alloc (.cells #[] e)) W.heap.size (fun _ => True) (.slice (some ⟨W.heap.size, 0, none⟩) 0 0) [] := by
  refine ⟨fun _ _ => trivial, [], ?_, Reps.none _ _⟩
  have h := World.ownsRow_lit (base := W.heap.size) (e := e) (size := d.sz) W #[] 0 (Nat.le_refl _) (by simp [maxLen]) (by simp)
  simpa using h
theorem nil_of_C {α : Type} {d : Kd α} {w : World} {n : Nat} {xs : List α} (h : d.C w none n xs) : n = 0 ∧ xs = [] := by
  obtain ⟨h1, h2⟩ := h
  have : ¬ 0 < n := by
    intro hn
    have h3 := Kd.C_get (d := d) (w := w) (A := none) (n := n) (xs := xs) ⟨h1, h2⟩
    cases xs with
    | nil => simp at h1; omega
    | cons x xs =>
      obtain ⟨ad, c, e, _⟩ := h3 x 0 (Int.le_refl _) (by omega)
      cases e
  refine ⟨by omega, List.eq_nil_of_length_eq_zero (by omega)⟩
set_option maxHeartbeats 4000000 in
set_option maxRecDepth 1000000 in
theorem clone_bytes (A : Option Addr) (c : Nat) (xs : List Int) (w : World) (h : Kd.C (Kd.int .u8) w A xs.length xs) (hl : xs.length ≤ 140737488355328) :
    Calls Try.prog 48 #[.slice A xs.length c] w fun e w' => ∃ v, e = .returned v ∧ Kd.R (Kd.int .u8) 5 w' w.heap.size (fun _ => True) v xs ∧ Below w.heap.size w w' := by
  have HC := Aside0.mk h
  have HL := Aside0.mk hl
  clear h hl
  cases A with
  | none =>
    obtain ⟨h0, rfl⟩ := nil_of_C HC.out
    have heq := fun w => Lib.run_eql_slice_nil (P := Try.prog) w 27 5 none 0 c 0 0 Try.underlying27
    go_enter Try.func48, Try.ntmps48
    go_wp2
    go_ret
    exact ⟨_, rfl, Kd.R_nil _ _ _ _ _, Below.refl _ _⟩
  | some ad =>
    have heq := fun w => Lib.run_eql_slice_nil (P := Try.prog) w 27 5 (some ad) xs.length c 0 0 Try.underlying27
    have HB := Aside0.mk (below_alloc (Below.refl w.heap.size w) (.cells #[] 5))
    have HE := Aside0.mk (empty_row (Kd.int .u8) w 5)
    have HA := Aside0.mk (Kd.C_below HC.out HB.out)
    go_enter Try.func48, Try.ntmps48
    go_wp2_with ((with_reducible refine gate_builtin (b := .append) (xs := #[.tmp 5, .tmp 6]) rfl ?_); at_builtin; refine Kd.R_append_rows (Kd.int .u8) (w0 := w) w.heap.size rfl (.tmp 5) (.tmp 6) 27 5 (.int .u8 0) 1 rfl Try.underlying27 info5 rfl (by decide) (by omega) (.slice (some ⟨w.heap.size, 0, none⟩) 0 0) [] xs _ _ _ (fun _ => True) (fun _ => False) rfl rfl HE.out HA.out ?aM (fun _ h => h.elim) (fun _ _ => trivial) HB.out (by simp) ?aL ?_; (case aM => intro x cs h; exact h); (case aL => have := HL.out; simpa using this); intro v1 w1 ho hb hg hat; have HO := Aside0.mk ho; have HB1 := Aside0.mk hb; clear ho hb hg hat)
    go_ret
    exact ⟨_, rfl, by simpa using HO.out, HB1.out⟩
set_option maxRecDepth 100000 in
theorem run_clip (A : Option Addr) (n c : Nat) (hc : n ≤ c) (W : World) : (Instr.slice 27 (.slice A n c) none (some (.int .i64 (n : Int))) (some (.int .i64 (n : Int)))).run Try.prog W = .ok (.slice A n n) W := by
  obtain ⟨i0, hi, hzz⟩ := Option.map_eq_some_iff.1 info5
  have hel : Try.prog.elem 27 = 5 := by simp [Program.elem, Try.underlying27]
  have hu : Try.prog.underlying 27 = some (.slice (Try.prog.elem 27)) := by rw [hel]; exact Try.underlying27
  rw [run_slice_hm W 27 A n c hu .i64 .i64 n n (by omega) (by omega) (by omega), hel]
  have ha : (A.map fun x => x.add 0) = A := by cases A <;> simp [Addr.add]
  simp [sizeOf, typeInfo, hi, sliced, Result.andThen, ha]
set_option maxHeartbeats 4000000 in
theorem clip_calls (A : Option Addr) (n c : Nat) (hc : n ≤ c) (hn : n ≤ 140737488355328) (w : World) : Calls Try.prog 38 #[.slice A n c] w fun e w' => e = .returned (.slice A n n) ∧ w' = w := by
  have hk := run_clip A n c hc
  go_enter Try.func38, Try.ntmps38
  go_wp2
  go_ret
  exact ⟨rfl, rfl⟩
theorem bytes_at {w w1 : World} {A : Option Addr} {n : Nat} {xs : List Int} (h : Kd.C (Kd.int .u8) w A n xs) (hm : ∀ ad, A = some ad → w1.heap[ad.block]? = w.heap[ad.block]?) : Kd.C (Kd.int .u8) w1 A n xs := by
  refine ⟨h.1, h.2.1, fun hn => ?_⟩
  obtain ⟨ad, e, hc⟩ := h.2.2 hn
  refine ⟨ad, e, fun j p hj => ?_⟩
  obtain ⟨cs, h1, h2, h3⟩ := hc j p hj
  refine ⟨cs, h1, h2, fun i u hu => ?_⟩
  rw [← h3 i u hu]
  have hb : ∀ k, (ad.add k).block = ad.block := fun k => by unfold Addr.add; split <;> rfl
  exact World.cell?_of_block (by rw [hb]; exact hm ad e)
theorem bytes_lt {w : World} {ad : Addr} {n : Nat} {xs : List Int} (h : Kd.C (Kd.int .u8) w (some ad) n xs) (hn : 0 < n) : ad.block < w.heap.size := by
  obtain ⟨ad', e, hc⟩ := Kd.at_int h 0 (Int.le_refl _) (by omega)
  obtain rfl := Option.some.inj e
  have := World.block_lt_of_cell? w _ hc
  have hb : ∀ k, (ad.add k).block = ad.block := fun k => by unfold Addr.add; split <;> rfl
  rwa [hb] at this
set_option maxHeartbeats 8000000 in
set_option maxRecDepth 1000000 in
/-- One piece: a slice of bytes that lies in a box of its own, handed in alone. -/
theorem pieces_one (w0 w : World) (base : Nat) (v : Value) (xs : List Int) (bl : Nat) (A : Option Addr) (c : Nat) (ys : List Int) (k : Nat) (ps : List Int) (HB : Below base w0 w) (hbase : base ≤ w.heap.size) (HO : Kd.R (Kd.int .u8) 5 w base (fun _ => True) v xs) (hbl : w.heap[bl]? = some (.cells #[.slice A ys.length c] 27 (0, 0))) (hC : Kd.C (Kd.int .u8) w A ys.length ys) (hlt : ∀ ad, A = some ad → ad.block < w.heap.size ∧ some ad.block ≠ v.ownBlock) (hput : word_Put.f k ys.length = some ps) (hl : xs.length + ps.length + ys.length ≤ 140737488355328) :
    Calls Try.prog 35 #[v, .slice (some ⟨bl, 0, none⟩) 1 1] w fun e w' => ∃ v', e = .returned v' ∧ Kd.R (Kd.int .u8) 5 w' base (fun _ => True) v' (xs ++ ps ++ ys) ∧ Below base w0 w' ∧ ∀ j, j < w.heap.size → some j ≠ v.ownBlock → w'.heap[j]? = w.heap[j]? := by
  have HL := Aside0.mk hl
  have HO := Aside0.mk HO
  have HB := Aside0.mk HB
  have HBL := Aside0.mk hbl
  have HC := Aside0.mk hC
  have HP := Aside0.mk hput
  have HS := Aside0.mk hbase
  have HT := Aside0.mk hlt
  have c0 : w.cell? ⟨bl, 0, none⟩ = some (.slice A ys.length c) := (blk_cell hbl 0).trans rfl
  have hy : (ys.length : Int) ≤ 140737488355328 := by omega
  obtain ⟨n, hn⟩ : ∃ n, ys.length = n := ⟨_, rfl⟩
  rw [hn] at c0 HC HP hy HL
  have HN := Aside0.mk hn
  clear hl hbl hC hput hbase hlt hn
  go_enter Try.func35, Try.ntmps35
  go_wp2
  refine wp_loop_rounds 2 ?_
  rw [rounds_succ]
  go_wp2_with fail
  refine (word_Put.calls k _ ps _ HP.out).mono ?_
  rintro e w1 ⟨v1, rfl, hr, hb⟩
  have HO1 := Aside0.mk (Kd.R_below HO.out hb)
  have HB1 := Aside0.mk (HB.out.trans (hb.mono HS.out))
  have HS1 := Aside0.mk (Nat.le_trans HS.out hb.size)
  have HPB := Aside0.mk (Kd.R_base hr)
  obtain ⟨A1, c1, hv1⟩ := Kd.R_slice hr
  subst hv1
  have HPR := Aside0.mk (Kd.R_reads' hr)
  have HC1 := Aside0.mk (bytes_at (w1 := w1) HC.out (fun ad e => hb.block _ (HT.out ad e).1))
  have HV := Aside0.mk (Kd.R_lt HO.out)
  have HT1 := Aside0.mk hb.size
  have HM1 := Aside0.mk hb.block
  clear hr hb
  go_wp2_with (first
    | ((with_reducible refine gate_builtin (b := .append) (xs := #[.tmp 13, .tmp 17]) rfl ?_); at_builtin; refine Kd.R_append_rows (Kd.int .u8) (w0 := w0) base rfl (.tmp 13) (.tmp 17) 27 5 (.int .u8 0) 1 rfl Try.underlying27 info5 rfl (by decide) (by decide) v xs ps _ _ _ (fun _ => True) (fun _ => False) rfl rfl HO1.out HPR.out.2.2 ?aM (fun _ h => h.elim) (fun _ _ => trivial) HB1.out HS1.out ?aL ?_; (case aM => intro x cs h; exact h); (case aL => have := HL.out; omega); intro v2 w2 hr hb hg hat; have HO2 := Aside0.mk hr; have HB2 := Aside0.mk hb; have HS2 := Aside0.mk (Nat.le_trans HS1.out hg.size); have HC2 := Aside0.mk (bytes_at (w1 := w2) HC1.out (fun ad e => hg.block _ (Nat.lt_of_lt_of_le (HT.out ad e).1 HT1.out) (HT.out ad e).2)); have HM2 := Aside0.mk hg.block; have HA2 := Aside0.mk hat; have HT2 := Aside0.mk hg.size; clear hr hb hg hat)
    | ((with_reducible refine gate_builtin (b := .append) (xs := #[.tmp 18, .tmp 19]) rfl ?_); at_builtin; refine Kd.R_append_rows (Kd.int .u8) (w0 := w0) base rfl (.tmp 18) (.tmp 19) 27 5 (.int .u8 0) 1 rfl Try.underlying27 info5 rfl (by decide) (by decide) v2 (xs ++ ps) ys _ _ _ (fun _ => True) (fun _ => False) rfl rfl HO2.out HC2.out ?aM (fun _ h => h.elim) (fun _ _ => trivial) HB2.out HS2.out ?aL2 ?_; (case aM => intro x cs h; exact h); (case aL2 => have := HL.out; simp; omega); intro v3 w3 hr hb hg hat; have HO3 := Aside0.mk hr; have HB3 := Aside0.mk hb; have HM3 := Aside0.mk hg.block; clear hr hb hg hat))
  rw [rounds_succ]
  go_wp2
  go_ret
  refine ⟨_, rfl, HO3.out, HB3.out, fun j hj hv => ?_⟩
  have h1 := HT1.out
  have h2 := HT2.out
  rw [HM3.out j (by omega) (fun e => ?_), HM2.out j (by omega) hv, HM1.out j hj]
  rcases HA2.out with ha | ⟨b, hb, hle⟩
  · exact hv (e.trans ha)
  · rw [hb] at e; injection e with e; omega
end Go.Proofs.Ytgfokmgbphhpjaa.St
