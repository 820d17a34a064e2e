/- The chapter's examples: Bytes of a text with nothing told, and of a name that tells nothing. -/
import Derived.Test.YtgfokmgbphhpjaaStBytes
namespace Go.Proofs.Ytgfokmgbphhpjaa.St
open Go.RowKit Go.Proofs.YtgfokmgbphhpjaaW.PrintWords Go.Proofs.YtgfokmgbphhpjaaW.PrintLast Go.Proofs.YtgfokmgbphhpjaaW.PrintMore Go.Proofs.Ytgfokmgbphhpjaa.PStampKeeps
set_option linter.unusedVariables false
set_option linter.unusedSimpArgs false
set_option maxHeartbeats 8000000 in
set_option maxRecDepth 1000000 in
theorem right_nil (w : World) : Calls Try.prog 11 #[.slice none 0 0] w fun e w' => e = .returned (.int .i64 0) ∧ w' = w := by
  go_enter Try.func11, Try.ntmps11
  go_wp2
  refine wp_loop_rounds 1 ?_
  rw [rounds_succ]
  go_wp2
  go_ret
  exact ⟨rfl, rfl⟩
abbrev tcells (nm : ByteArray) : Array Value := #[.string nm, .bool false, .int .i64 0, .int .i64 0, .slice none 0 0]
set_option maxHeartbeats 8000000 in
set_option maxRecDepth 1000000 in
theorem right_one (w : World) (bt : Nat) (nm : ByteArray) (hb : w.heap[bt]? = some (.cells (tcells nm) 69 (0, 0))) : Calls Try.prog 11 #[.slice (some ⟨bt, 0, none⟩) 1 1] w fun e w' => e = .returned (.int .i64 0) ∧ Below w.heap.size w w' := by
  have c0 : w.cell? ⟨bt, 0, none⟩ = some (.string nm) := (blk_cell hb 0).trans rfl
  have c1 : w.cell? ⟨bt, 1, none⟩ = some (.bool false) := (blk_cell hb 1).trans rfl
  have c2 : w.cell? ⟨bt, 2, none⟩ = some (.int .i64 0) := (blk_cell hb 2).trans rfl
  have c3 : w.cell? ⟨bt, 3, none⟩ = some (.int .i64 0) := (blk_cell hb 3).trans rfl
  have c4 : w.cell? ⟨bt, 4, none⟩ = some (.slice none 0 0) := (blk_cell hb 4).trans rfl
  clear hb
  go_enter Try.func11, Try.ntmps11
  go_wp2
  refine wp_loop_rounds 2 ?_
  rw [rounds_succ]
  go_wp2
  rw [rounds_succ]
  go_wp2
  go_ret
  exact ⟨rfl, below_alloc (Below.refl _ _) _⟩
theorem bytes_C (W : World) (s : ByteArray) (hs : s.size ≤ 9223372036854775807) : Kd.C (Kd.int .u8) (Lib.bytesWorld W 5 s) (some ⟨W.heap.size, 0, none⟩) s.size (bytesOf s) :=
  Kd.C_of_reads (d := (0 : Int)) (h1 := fun _ => rfl) (bytes_reads W 5 s hs)
/-- One piece that is a text. -/
theorem piece_str (w0 W : World) (base : Nat) (v : Value) (xs : List Int) (s : ByteArray) (k : Nat) (ps : List Int) (HB : Below base w0 W) (hbase : base ≤ W.heap.size) (HO : Kd.R (Kd.int .u8) 5 W base (fun _ => True) v xs) (hput : word_Put.f k s.size = some ps) (hl : xs.length + ps.length + s.size ≤ 140737488355328) :
    Calls Try.prog 35 #[v, .slice (some ⟨(Lib.bytesWorld W 5 s).heap.size, 0, none⟩) 1 1] ((Lib.bytesWorld W 5 s).alloc (.cells #[.slice (some ⟨W.heap.size, 0, none⟩) s.size (grownCap W s.size 0 5)] 27)) fun e w' => ∃ v', e = .returned v' ∧ Kd.R (Kd.int .u8) 5 w' base (fun _ => True) v' (xs ++ ps ++ bytesOf s) ∧ Below base w0 w' ∧ ∀ j, j < W.heap.size → some j ≠ v.ownBlock → w'.heap[j]? = W.heap[j]? := by
  have hb0 : Below W.heap.size W (Lib.bytesWorld W 5 s) := bytes_below (Below.refl _ _) (Nat.le_refl _) 5 s
  have hb1 := below_alloc hb0 (.cells #[.slice (some ⟨W.heap.size, 0, none⟩) s.size (grownCap W s.size 0 5)] 27)
  have hc := Kd.C_alloc (bytes_C W s (by omega)) (.cells #[.slice (some ⟨W.heap.size, 0, none⟩) s.size (grownCap W s.size 0 5)] 27)
  have hlen := bytesOf_length s
  refine (pieces_one w0 _ base v xs _ (some ⟨W.heap.size, 0, none⟩) (grownCap W s.size 0 5) (bytesOf s) k ps (HB.trans (hb1.mono hbase)) (Nat.le_trans hbase hb1.size) (Kd.R_below HO hb1) ?_ ?_ ?_ ?_ (by rw [hlen]; exact hl)).mono ?_
  rotate_left 4
  · rintro e w' ⟨v', h1, h2, h3, h4⟩
    exact ⟨v', h1, h2, h3, fun j hj hv => (h4 j (Nat.lt_of_lt_of_le hj hb1.size) hv).trans (hb1.block j hj)⟩
  · rw [hlen]; exact heap_alloc_new _ _
  · rw [hlen]; exact hc
  · rintro ad e
    obtain rfl := Option.some.inj e
    refine ⟨by simp [Lib.bytesWorld_size]; omega, fun h => ?_⟩
    have := Kd.R_lt HO _ h.symm
    simp at this
  · rw [hlen]; exact hput
set_option maxHeartbeats 8000000 in
set_option maxRecDepth 1000000 in
theorem bytes_nil (w : World) (s : ByteArray) (k : Nat) (ps : List Int) (hs : s.size ≤ 20000) (hput : word_Put.f k s.size = some ps) (hp : ps.length ≤ 10) : Calls Try.prog 12 #[.string s, .slice none 0 0] w fun e w' => ∃ A c L, L = ps ++ bytesOf s ++ [0] ∧ e = .returned (.tuple #[.slice A L.length L.length, .int .i64 0]) ∧ Kd.R (Kd.int .u8) 5 w' w.heap.size (fun _ => True) (.slice A L.length c) L ∧ Below w.heap.size w w' := by
  have kb := fun W => print_bytes (P := Try.prog) 9 27 5 Try.underlying9 Try.underlying27 Try.underlying5 s W
  have q0 : decide (20000 < (s.size : Int)) = false := decide_eq_false (by omega)
  have q1 := eq_false (show ¬ 20000 < (s.size : Int) by omega)
  have HP := Aside0.mk hput
  have HPL := Aside0.mk hp
  have HS := Aside0.mk hs
  clear hput hp hs
  go_enter Try.func12, Try.ntmps12
  go_wp2_with (first | (go_at_call 11; ((with_reducible refine (right_nil _).mono ?_); rintro e w1 ⟨rfl, rfl⟩)))
  refine (piece_str w1 w1 w1.heap.size (.slice none 0 0) [] s k ps (Below.refl _ _) (Nat.le_refl _) (Kd.R_nil _ _ _ _ _) HP.out (by have := HPL.out; have := HS.out; simp; omega)).mono ?_
  rintro e w2 ⟨v2, rfl, hr, hb, -⟩
  rw [List.nil_append] at hr
  have HO := Aside0.mk hr
  have HB := Aside0.mk hb
  clear hr hb kb q0 q1
  go_wp2_with fail
  refine (word_Put.calls 1 0 [0] _ rfl).mono ?_
  rintro e w3 ⟨v3, rfl, hr, hb⟩
  obtain ⟨A3, c3, hv3⟩ := Kd.R_slice hr
  subst hv3
  have HPR := Aside0.mk (Kd.R_reads' hr)
  have HO1 := Aside0.mk (Kd.R_below HO.out hb)
  have HB1 := Aside0.mk (HB.out.trans (hb.mono HB.out.size))
  have HS1 := Aside0.mk (Nat.le_trans HB.out.size hb.size)
  clear hr hb
  go_wp2_with ((with_reducible refine gate_builtin (b := .append) (xs := #[.tmp 24, .tmp 28]) rfl ?_); at_builtin; refine Kd.R_append_rows (Kd.int .u8) (w0 := w1) w1.heap.size rfl (.tmp 24) (.tmp 28) 27 5 (.int .u8 0) 1 rfl Try.underlying27 info5 rfl (by decide) (by decide) v2 (ps ++ bytesOf s) [0] _ _ _ (fun _ => True) (fun _ => False) rfl rfl HO1.out HPR.out.2.2 ?aM (fun _ h => h.elim) (fun _ _ => trivial) HB1.out HS1.out ?aL ?_; (case aM => intro x cs h; exact h); (case aL => have := HPL.out; have := HS.out; have := bytesOf_length s; simp; omega); intro v4 w4 hr hb hg hat; obtain ⟨L, hL⟩ : ∃ L, ps ++ bytesOf s ++ [0] = L := ⟨_, rfl⟩; rw [hL] at hr; obtain ⟨A4, c4, hv4⟩ := Kd.R_slice hr; subst hv4; have HLL := Aside0.mk hL; clear hL; have HO2 := Aside0.mk hr; have HB2 := Aside0.mk hb; clear hr hb hg hat)
  refine wp_loop_rounds 1 ?_
  rw [rounds_succ]
  go_wp2_with fail
  refine (clip_calls A4 L.length c4 (Kd.R_reads' HO2.out).2.1 ?hn _).mono ?_
  case hn => rw [← HLL.out]; have := HPL.out; have := HS.out; have := bytesOf_length s; simp; omega
  rintro e w5 ⟨rfl, rfl⟩
  go_wp2
  go_ret2
  exact ⟨A4, c4, L, HLL.out.symm, rfl, HO2.out, HB2.out⟩
set_option maxHeartbeats 8000000 in
set_option maxRecDepth 1000000 in
theorem bytes_one (w : World) (s nm : ByteArray) (bt : Nat) (k : Nat) (ps : List Int) (k2 : Nat) (ps2 : List Int) (hs : s.size ≤ 20000) (hput : word_Put.f k s.size = some ps) (hp : ps.length ≤ 10) (hbt : w.heap[bt]? = some (.cells (tcells nm) 69 (0, 0))) (hn : nm.size ≤ 1000000) (hput2 : word_Put.f k2 nm.size = some ps2) (hp2 : ps2.length ≤ 10) : Calls Try.prog 12 #[.string s, .slice (some ⟨bt, 0, none⟩) 1 1] w fun e w' => ∃ A c L, L = ps ++ bytesOf s ++ [1] ++ ps2 ++ bytesOf nm ++ [0] ∧ e = .returned (.tuple #[.slice A L.length L.length, .int .i64 0]) ∧ Kd.R (Kd.int .u8) 5 w' w.heap.size (fun _ => True) (.slice A L.length c) L ∧ Below w.heap.size w w' := by
  have kb := fun W => print_bytes (P := Try.prog) 9 27 5 Try.underlying9 Try.underlying27 Try.underlying5 s W
  have q0 : decide (20000 < (s.size : Int)) = false := decide_eq_false (by omega)
  have q1 := eq_false (show ¬ 20000 < (s.size : Int) by omega)
  have HP := Aside0.mk hput
  have HPL := Aside0.mk hp
  have HS := Aside0.mk hs
  have HT := Aside0.mk hbt
  have HNM := Aside0.mk hn
  have HP2 := Aside0.mk hput2
  have HPL2 := Aside0.mk hp2
  clear hput hp hs hbt hn hput2 hp2
  go_enter Try.func12, Try.ntmps12
  go_wp2_with fail
  refine (right_one _ bt nm HT.out).mono ?_
  rintro e w1 ⟨rfl, hb⟩
  have HB0 := Aside0.mk hb
  clear hb
  go_wp2_with fail
  refine (piece_str w w1 w.heap.size (.slice none 0 0) [] s k ps HB0.out HB0.out.size (Kd.R_nil _ _ _ _ _) HP.out (by have := HPL.out; have := HS.out; simp; omega)).mono ?_
  rintro e w2 ⟨v2, rfl, hr, hb, -⟩
  rw [List.nil_append] at hr
  have HO := Aside0.mk hr
  have HB := Aside0.mk hb
  clear hr hb kb q0 q1
  go_wp2_with fail
  refine (word_Put.calls 1 1 [1] _ rfl).mono ?_
  rintro e w3 ⟨v3, rfl, hr, hb⟩
  obtain ⟨A3, c3, hv3⟩ := Kd.R_slice hr
  subst hv3
  have HPR := Aside0.mk (Kd.R_reads' hr)
  have HO1 := Aside0.mk (Kd.R_below HO.out hb)
  have HB1 := Aside0.mk (HB.out.trans (hb.mono HB.out.size))
  have HS1 := Aside0.mk (Nat.le_trans HB.out.size hb.size)
  clear hr hb
  go_wp2_with ((with_reducible refine gate_builtin (b := .append) (xs := #[.tmp 24, .tmp 28]) rfl ?_); at_builtin; refine Kd.R_append_rows (Kd.int .u8) (w0 := w) w.heap.size rfl (.tmp 24) (.tmp 28) 27 5 (.int .u8 0) 1 rfl Try.underlying27 info5 rfl (by decide) (by decide) v2 (ps ++ bytesOf s) [1] _ _ _ (fun _ => True) (fun _ => False) rfl rfl HO1.out HPR.out.2.2 ?aM (fun _ h => h.elim) (fun _ _ => trivial) HB1.out HS1.out ?aL ?_; (case aM => intro x cs h; exact h); (case aL => have := HPL.out; have := HS.out; have := bytesOf_length s; simp; omega); intro v4 w4 hr hb hg hat; obtain ⟨L, hL⟩ : ∃ L, ps ++ bytesOf s ++ [1] = L := ⟨_, rfl⟩; rw [hL] at hr; have HLL := Aside0.mk hL; clear hL; have HO2 := Aside0.mk hr; have HB2 := Aside0.mk hb; clear hr hb hg hat)
  have HLN := Aside0.mk (show L.length ≤ 20011 by rw [← HLL.out]; have := HPL.out; have := HS.out; have := bytesOf_length s; simp; omega)
  have be := (HB2.out.block _ (blk_lt HT.out)).trans HT.out
  have HT4 := Aside0.mk be
  have c0 : w4.cell? ⟨bt, 0, none⟩ = some (.string nm) := (blk_cell be 0).trans rfl
  have c1 : w4.cell? ⟨bt, 1, none⟩ = some (.bool false) := (blk_cell be 1).trans rfl
  have c2 : w4.cell? ⟨bt, 2, none⟩ = some (.int .i64 0) := (blk_cell be 2).trans rfl
  have c3 : w4.cell? ⟨bt, 3, none⟩ = some (.int .i64 0) := (blk_cell be 3).trans rfl
  have c4 : w4.cell? ⟨bt, 4, none⟩ = some (.slice none 0 0) := (blk_cell be 4).trans rfl
  have kb := fun W => print_bytes (P := Try.prog) 9 27 5 Try.underlying9 Try.underlying27 Try.underlying5 nm W
  clear be
  refine wp_loop_rounds 2 ?_
  rw [rounds_succ]
  go_wp2_with fail
  clear c0 c1 c2 c3 c4 kb
  have hpc := piece_str w (w4.alloc (.cells (tcells nm) 69)) w.heap.size v4 L nm k2 ps2 (below_alloc HB2.out _) (by have := HB2.out.size; simp; omega) (Kd.R_alloc HO2.out _) HP2.out (by have := HPL2.out; have := HNM.out; have := HLN.out; omega)
  rw [World.size_alloc] at hpc
  refine hpc.mono ?_
  rintro e w6 ⟨v6, rfl, hr, hb, hk⟩
  have hn9 := heap_alloc_new w4 (.cells (tcells nm) 69)
  have be := (hk w4.heap.size (by simp) (fun e => by have := Kd.R_lt HO2.out _ e.symm; omega)).trans hn9
  have c1 : w6.cell? ⟨w4.heap.size, 1, none⟩ = some (.bool false) := (blk_cell be 1).trans rfl
  have HO3 := Aside0.mk hr
  have HB3 := Aside0.mk hb
  clear hr hb hk hn9 be
  have HLM := Aside0.mk (show (L ++ ps2 ++ bytesOf nm).length ≤ 2000000 by have := HPL2.out; have := HNM.out; have := HLN.out; have := bytesOf_length nm; simp; omega)
  go_wp2_with ((with_reducible refine gate_builtin (b := .append) (xs := #[.tmp 45, .tmp 46]) rfl ?_); at_builtin; refine Kd.R_append (Kd.int .u8) (w0 := w) w.heap.size rfl (.tmp 45) (.tmp 46) 27 5 (.int .u8 0) 1 rfl Try.underlying27 info5 rfl (by decide) (by decide) v6 (L ++ ps2 ++ bytesOf nm) 0 [.int .u8 0] (fun _ => True) (fun _ => False) rfl rfl ?aP (fun _ hk => hk.elim) (fun _ _ => trivial) HO3.out HB3.out ?aS ?aL ?_; (case aP => exact rfl); (case aS => exact HB3.out.size); (case aL => have := HLM.out; omega); intro v7 w7 hr hb hg hat; obtain ⟨L2, hL2⟩ : ∃ L2, L ++ ps2 ++ bytesOf nm ++ [0] = L2 := ⟨_, rfl⟩; rw [hL2] at hr; obtain ⟨A7, c7, hv7⟩ := Kd.R_slice hr; subst hv7; have HL2 := Aside0.mk hL2; clear hL2; have HO4 := Aside0.mk hr; have HB4 := Aside0.mk hb; clear hr hb hg hat)
  clear c1
  rw [rounds_succ]
  go_wp2_with fail
  refine (clip_calls A7 L2.length c7 (Kd.R_reads' HO4.out).2.1 ?hn _).mono ?_
  case hn => rw [← HL2.out]; have := HLM.out; rw [List.length_append]; simp only [List.length_cons, List.length_nil]; omega
  rintro e w8 ⟨rfl, rfl⟩
  go_wp2
  go_ret2
  exact ⟨A7, c7, L2, by rw [← HL2.out, ← HLL.out], rfl, HO4.out, HB4.out⟩
end Go.Proofs.Ytgfokmgbphhpjaa.St
