/- Machines that cannot be told apart; a law beside several machines. -/
import Derived.Test.YthcchpbidbbiaaaSch
import Derived.Test.YthcchpbidbbiaaaScg
namespace Go.Proofs.Ythcchpbidbbiaaa.Sc
open Go.RowKit Go.Proofs.YthcchpbidbbiaaaW.PrintWords Go.Proofs.YthcchpbidbbiaaaW.PrintLast Go.Proofs.YthcchpbidbbiaaaW.PrintMore Go.Proofs.Ythcchpbidbbiaaa.PSchedSide
set_option linter.unusedVariables false
set_option linter.unusedSimpArgs false
section
variable {w0 W W' : World} {N : Nat → Prop} {g : Nat} {m : Mach}
theorem pk_place (h : Run w0 W N g m) (p : Int) (hp : 0 ≤ p ∧ p ≤ m.workers.length + 1) {z0 z1 z2 : Int} (hz : placeOf m p = ⟨z0, z1, z2⟩) : Calls Try.prog 29 #[ptr g, .int .i64 p] W fun e w' => e = .returned (.tuple #[.agg #[.int .i64 z0, .int .i64 z1, .int .i64 z2], .int .i64 0]) ∧ Below W.heap.size W w' := by
  have h8 := h.inv.ok.nw
  have h9 := h.inv.ok.pw
  refine (r_place h p (by omega)).mono ?_
  rintro e w' ⟨rfl, _, hb⟩
  have he : placeErr m p = 0 := by unfold placeErr; rw [if_neg (by omega)]
  rw [he, hz]
  exact ⟨rfl, hb⟩
theorem pk_waiting (h : Run w0 W N g m) {S G : List Int} (hS : m.sent = S) (hG : m.given = G) : Calls Try.prog 23 #[ptr g] W fun e w' => ∃ A1 c1 A2 c2, e = .returned (.tuple #[.slice A1 S.length c1, .slice A2 G.length c2]) ∧ Kd.C (Kd.int .i64) w' A1 S.length S ∧ S.length ≤ c1 ∧ Kd.C (Kd.int .i64) w' A2 G.length G ∧ G.length ≤ c2 ∧ Below W.heap.size W w' := by
  subst hS hG
  obtain ⟨s, hI, hF⟩ := h.out
  refine (waiting_calls W g s m hI h.inv.ok).mono ?_
  rintro e w' ⟨v1, v2, W1, B, rfl, h1, h2, h3, h4, hb⟩
  obtain ⟨A1, c1, hv1⟩ := Kd.R_slice h1
  obtain ⟨A2, c2, hv2⟩ := Kd.R_slice h3
  subst hv1 hv2
  have h5 := Kd.R_reads' (Kd.R_below h1 h2)
  have h6 := Kd.R_reads' h3
  exact ⟨A1, c1, A2, c2, rfl, h5.2.2, h5.2.1, h6.2.2, h6.2.1, hb⟩
theorem pk_got (h : Run w0 W N g m) {O : List Int} (hO : m.got = O) : Calls Try.prog 26 #[ptr g] W fun e w' => ∃ A c, e = .returned (.slice A O.length c) ∧ Kd.C (Kd.int .i64) w' A O.length O ∧ O.length ≤ c ∧ Below W.heap.size W w' := by
  subst hO
  refine (r_got h).mono ?_
  rintro e w' ⟨u, rfl, hr, _, hb⟩
  obtain ⟨A, c, hv⟩ := Kd.R_slice hr
  subst hv
  have h6 := Kd.R_reads' hr
  exact ⟨A, c, rfl, h6.2.2, h6.2.1, hb⟩
theorem pk_ready (h : Run w0 W N g m) {L : List S64} (hL : mvs m = L) : Calls Try.prog 34 #[ptr g] W fun e w' => ∃ A, e = .returned (.slice A L.length L.length) ∧ Kd.C k64 w' A L.length L ∧ Below W.heap.size W w' := by
  subst hL
  refine (r_ready h).mono ?_
  rintro e w' ⟨A, c, rfl, hr, _, hb⟩
  exact ⟨A, rfl, (Kd.R_reads' hr).2.2, hb⟩
theorem pk_measure (h : Run w0 W N g m) {z0 z1 z2 z3 z4 : Int} (hz : measOf m = ⟨z0, z1, z2, z3, z4⟩) : Calls Try.prog 32 #[ptr g] W fun e w' => e = .returned (.agg #[.int .i64 z0, .int .i64 z1, .int .i64 z2, .int .i64 z3, .int .i64 z4]) ∧ Below W.heap.size W w' := by
  refine (r_measure h).mono ?_
  rintro e w' ⟨rfl, _, hb⟩
  rw [hz]
  exact ⟨rfl, hb⟩
theorem pk_picks (h : Run w0 W N g m) {x : Int} (hx : m.picks = x) : Calls Try.prog 36 #[ptr g] W fun e w' => e = .returned (.int .i64 x) ∧ w' = W := by
  subst hx
  exact r_picks h
theorem pk_outcome (h : Run w0 W N g m) {x : Int} (hx : m.outcome = x) : Calls Try.prog 27 #[ptr g] W fun e w' => e = .returned (.int .i64 x) ∧ w' = W := by
  subst hx
  exact r_outcome h
theorem pk_peak (h : Run w0 W N g m) {x : Int} (hx : m.peak = x) : Calls Try.prog 31 #[ptr g] W fun e w' => e = .returned (.int .i64 x) ∧ w' = W := by
  subst hx
  exact r_peak h
theorem pk_done (h : Run w0 W N g m) {x : Bool} (hx : doneOf m = x) : Calls Try.prog 17 #[ptr g] W fun e w' => e = .returned (.bool x) ∧ Below W.heap.size W w' := by
  subst hx
  refine (r_done h).mono ?_
  rintro e w' ⟨rfl, _, hb⟩
  exact ⟨rfl, hb⟩
theorem same_ints_below (A0 A1 : Option Addr) (c0 c1 : Nat) (l : List Int) (w : World) (hl : l.length ≤ 1000000) (h0 : Kd.C (Kd.int .i64) w A0 l.length l) (k0 : l.length ≤ c0) (h1 : Kd.C (Kd.int .i64) w A1 l.length l) (k1 : l.length ≤ c1) :
    Calls Try.prog 24 #[.slice A0 l.length c0, .slice A1 l.length c1] w fun e w' => e = .returned (.bool true) ∧ Below w.heap.size w w' :=
  (same_ints_calls A0 A1 c0 c1 l w hl h0 k0 h1 k1).mono fun _ _ ⟨h, hd⟩ => ⟨h, below_drawn (Below.refl _ _) hd⟩
theorem same_moves_below (A0 A1 : Option Addr) (c0 c1 : Nat) (l : List S64) (w : World) (hl : l.length ≤ 1000000) (h0 : Kd.C k64 w A0 l.length l) (k0 : l.length ≤ c0) (h1 : Kd.C k64 w A1 l.length l) (k1 : l.length ≤ c1) :
    Calls Try.prog 44 #[.slice A0 l.length c0, .slice A1 l.length c1] w fun e w' => e = .returned (.bool true) ∧ Below w.heap.size w w' :=
  (same_moves_calls A0 A1 c0 c1 l w hl h0 k0 h1 k1).mono fun _ _ ⟨h, hd⟩ => ⟨h, below_drawn (Below.refl _ _) hd⟩
end
set_option maxHeartbeats 16000000 in
set_option maxRecDepth 1000000 in
theorem alike_calls (w0 w : World) (N : Nat → Prop) (ga gb : Nat) (ma mb : Mach) (pw pj pr : Int) (hA : Run w0 w N ga ma) (hC : Run w0 w N gb mb) (hl : Like ma mb) (hp : (ma.workers.length : Int) = pw) :
    Calls Try.prog 43 #[ptr ga, ptr gb, .agg #[.int .i64 pw, .int .i64 pj, .int .i64 pr]] w fun e w' => e = .returned (.bool true) ∧ Below w.heap.size w w' := by
  have hpw : 1 ≤ pw ∧ pw ≤ 8 := by have h1 := hA.inv.ok.nw; have h2 := hA.inv.ok.pw; omega
  have hrest := like_rest hl
  have hlen : (mb.workers.length : Int) = pw := by rw [hrest.2.2.2.2.2.2.2]; exact hp
  have HA := Aside0.mk hA
  have HC := Aside0.mk hC
  have HP := Aside0.mk (And.intro hp hlen)
  have HPL := Aside0.mk (fun c => (like_place hl c).1)
  obtain ⟨S, hS⟩ : ∃ S, ma.sent = S := ⟨_, rfl⟩
  obtain ⟨G, hG⟩ : ∃ S, ma.given = S := ⟨_, rfl⟩
  obtain ⟨O, hO⟩ : ∃ S, ma.got = S := ⟨_, rfl⟩
  obtain ⟨L, hL⟩ : ∃ S, mvs ma = S := ⟨_, rfl⟩
  obtain ⟨y0, y1, y2, y3, y4, hM⟩ : ∃ z0 z1 z2 z3 z4, measOf ma = ⟨z0, z1, z2, z3, z4⟩ := ⟨_, _, _, _, _, rfl⟩
  obtain ⟨X, hX⟩ : ∃ S, ma.picks = S := ⟨_, rfl⟩
  obtain ⟨U, hU⟩ : ∃ S, ma.outcome = S := ⟨_, rfl⟩
  obtain ⟨D, hD⟩ : ∃ S, doneOf ma = S := ⟨_, rfl⟩
  have HSA := Aside0.mk hS
  have HSC := Aside0.mk (hrest.1.trans hS)
  have HGA := Aside0.mk hG
  have HGC := Aside0.mk (hrest.2.1.trans hG)
  have HOA := Aside0.mk hO
  have HOC := Aside0.mk (hrest.2.2.1.trans hO)
  have HXA := Aside0.mk hX
  have HXC := Aside0.mk (hrest.2.2.2.1.trans hX)
  have HUA := Aside0.mk hU
  have HUC := Aside0.mk (hrest.2.2.2.2.1.trans hU)
  have HDA := Aside0.mk hD
  have HDC := Aside0.mk (hrest.2.2.2.2.2.1.trans hD)
  have HMA := Aside0.mk hM
  have HMC := Aside0.mk ((like_meas hl).trans hM)
  have HRA := Aside0.mk hL
  have HRC := Aside0.mk ((like_mvs hl).trans hL)
  have HLS := Aside0.mk (show S.length ≤ 1000000 by have h1 := hA.inv.ok.ns; have h2 := hA.inv.ok.pj; rw [hS] at h1; omega)
  have HLG := Aside0.mk (show G.length ≤ 1000000 by have h1 := hA.inv.ok.ng; have h2 := hA.inv.ok.pr; rw [hG] at h1; omega)
  have HLO := Aside0.mk (show O.length ≤ 1000000 by have h1 := hA.inv.ok.jd; have h2 := ct_of hA.inv.ok; have h3 := hA.inv.ok.nx; have h4 := hA.inv.ok.nj; have h5 := working_le ma.workers; rw [hO] at h1; omega)
  have HLL := Aside0.mk (show L.length ≤ 1000000 by have h1 := mvs_length_le hA.inv.ok; rw [hL] at h1; omega)
  have HBW := Aside0.mk (below_alloc (Below.refl w.heap.size w) (.cells #[.int .i64 pw, .int .i64 pj, .int .i64 pr] 23))
  have HE := Aside0.mk (heap_alloc_new w (.cells #[.int .i64 pw, .int .i64 pj, .int .i64 pr] 23))
  clear hA hC hl hp hrest hlen hS hG hO hL hM hX hU hD
  go_enter Try.func43, Try.ntmps43
  go_wp2
  go_loopw [7] (fun i wr => ∃ k : Nat, i = .int .i64 k ∧ (k : Int) ≤ pw + 2 ∧ Below w.heap.size w wr ∧ wr.heap[w.heap.size]? = some (.cells #[.int .i64 pw, .int .i64 pj, .int .i64 pr] 23 (0, 0))) (fun i _ => (pw + 2).toNat - (intOf i).toNat)
  case atStart => exact ⟨0, rfl, by omega, HBW.out, HE.out⟩
  case round =>
    obtain ⟨k, rfl, hk, hB, hE⟩ := hrel
    clear HBW HE
    have HBW := Aside0.mk hB
    have HE := Aside0.mk hE
    have d0 : wr.cell? ⟨w.heap.size, 0, none⟩ = some (.int .i64 pw) := (blk_cell hE 0).trans rfl
    have d1 : wr.cell? ⟨w.heap.size, 1, none⟩ = some (.int .i64 pj) := (blk_cell hE 1).trans rfl
    have d2 : wr.cell? ⟨w.heap.size, 2, none⟩ = some (.int .i64 pr) := (blk_cell hE 2).trans rfl
    by_cases hlt : (k : Int) ≤ pw + 1
    · have p0 : decide ((k : Int) ≤ pw + 1) = true := decide_eq_true hlt
      have p1 := eq_true hlt
      obtain ⟨z0, z1, z2, hz⟩ : ∃ z0 z1 z2, placeOf ma k = ⟨z0, z1, z2⟩ := ⟨_, _, _, rfl⟩
      have HZ := Aside0.mk hz
      have HZC := Aside0.mk ((HPL.out k).trans hz)
      have HPA := Aside0.mk (show 0 ≤ (k : Int) ∧ (k : Int) ≤ ma.workers.length + 1 from ⟨by omega, by have := HP.out.1; omega⟩)
      have HPC := Aside0.mk (show 0 ≤ (k : Int) ∧ (k : Int) ≤ mb.workers.length + 1 from ⟨by omega, by have := HP.out.2; omega⟩)
      have HK := Aside0.mk hlt
      have hk9 : (k : Int) ≤ 10 := by omega
      clear hB hE hk hlt hz
      go_wp2_with (first | (go_at_call 29; first | ((with_reducible refine (pk_place (HA.out.pass HBW.out) _ HPA.out HZ.out).mono ?_); rintro e wa ⟨rfl, hb⟩; have hx_ := blk_alloc ((hb.block _ (blk_lt HE.out)).trans HE.out) (.cells #[.int .i64 z0, .int .i64 z1, .int .i64 z2] 59); clear HE; have HE := Aside0.mk hx_; clear hx_; have hb_ := below_alloc (HBW.out.trans (hb.mono HBW.out.size)) (.cells #[.int .i64 z0, .int .i64 z1, .int .i64 z2] 59); have hn_ := heap_alloc_new wa (.cells #[.int .i64 z0, .int .i64 z1, .int .i64 z2] 59); clear HBW; have HBW := Aside0.mk hb_; have HN1 := Aside0.mk hn_; clear hb hb_ hn_) | ((with_reducible refine (pk_place (HC.out.pass HBW.out) _ HPC.out HZC.out).mono ?_); rintro e wb ⟨rfl, hb⟩; have hx_ := blk_alloc ((hb.block _ (blk_lt HE.out)).trans HE.out) (.cells #[.int .i64 z0, .int .i64 z1, .int .i64 z2] 59); clear HE; have HE := Aside0.mk hx_; clear hx_; have hb_ := below_alloc (HBW.out.trans (hb.mono HBW.out.size)) (.cells #[.int .i64 z0, .int .i64 z1, .int .i64 z2] 59); have hn_ := heap_alloc_new wb (.cells #[.int .i64 z0, .int .i64 z1, .int .i64 z2] 59); have hm_ := blk_alloc ((hb.block _ (blk_lt HN1.out)).trans HN1.out) (.cells #[.int .i64 z0, .int .i64 z1, .int .i64 z2] 59); clear HBW; have HBW := Aside0.mk hb_; have e0 : (wb.alloc (.cells #[.int .i64 z0, .int .i64 z1, .int .i64 z2] 59)).cell? ⟨wa.heap.size, 0, none⟩ = some (.int .i64 z0) := (blk_cell hm_ 0).trans rfl; have e1 : (wb.alloc (.cells #[.int .i64 z0, .int .i64 z1, .int .i64 z2] 59)).cell? ⟨wa.heap.size, 1, none⟩ = some (.int .i64 z1) := (blk_cell hm_ 1).trans rfl; have e2 : (wb.alloc (.cells #[.int .i64 z0, .int .i64 z1, .int .i64 z2] 59)).cell? ⟨wa.heap.size, 2, none⟩ = some (.int .i64 z2) := (blk_cell hm_ 2).trans rfl; have f0 : (wb.alloc (.cells #[.int .i64 z0, .int .i64 z1, .int .i64 z2] 59)).cell? ⟨wb.heap.size, 0, none⟩ = some (.int .i64 z0) := (blk_cell hn_ 0).trans rfl; have f1 : (wb.alloc (.cells #[.int .i64 z0, .int .i64 z1, .int .i64 z2] 59)).cell? ⟨wb.heap.size, 1, none⟩ = some (.int .i64 z1) := (blk_cell hn_ 1).trans rfl; have f2 : (wb.alloc (.cells #[.int .i64 z0, .int .i64 z1, .int .i64 z2] 59)).cell? ⟨wb.heap.size, 2, none⟩ = some (.int .i64 z2) := (blk_cell hn_ 2).trans rfl; clear hb hb_ hn_ hm_ HN1)))
      go_roundw
      case rel => exact ⟨k + 1, by go_num, by have := HK.out; omega, HBW.out, HE.out⟩
      case measure => have := HK.out; simp [intOf]; omega
    · have p0 : decide ((k : Int) ≤ pw + 1) = false := decide_eq_false hlt
      have p1 := eq_false hlt
      clear hB hE hk hlt
      go_wp2_with (first | (go_at_call 23; first | ((with_reducible refine (pk_waiting (HA.out.pass HBW.out) HSA.out HGA.out).mono ?_); rintro e wc ⟨A1, c1, A2, c2, rfl, k1, k2, k3, k4, hb⟩; have hb_ := HBW.out.trans (hb.mono HBW.out.size); have HW1 := Aside0.mk (And.intro k1 (And.intro k2 (And.intro k3 k4))); clear k1 k2 k3 k4; clear HBW; have HBW := Aside0.mk hb_; clear hb hb_) | ((with_reducible refine (pk_waiting (HC.out.pass HBW.out) HSC.out HGC.out).mono ?_); rintro e wd ⟨A3, c3, A4, c4, rfl, k1, k2, k3, k4, hb⟩; have hb_ := HBW.out.trans (hb.mono HBW.out.size); have HW2 := Aside0.mk (And.intro k1 (And.intro k2 (And.intro k3 k4))); have HW1_ := Aside0.mk (And.intro (Kd.C_below HW1.out.1 hb) (Kd.C_below HW1.out.2.2.1 hb)); clear k1 k2 k3 k4; clear HBW; have HBW := Aside0.mk hb_; clear hb hb_)) | (go_at_call 24; first | ((with_reducible refine (same_ints_below A1 A3 c1 c3 S _ HLS.out HW1_.out.1 HW1.out.2.1 HW2.out.1 HW2.out.2.1).mono ?_); rintro e we ⟨rfl, hb⟩; have hb_ := HBW.out.trans (hb.mono HBW.out.size); have HW3 := Aside0.mk (And.intro (Kd.C_below HW1_.out.2 hb) (Kd.C_below HW2.out.2.2.1 hb)); clear HBW; have HBW := Aside0.mk hb_; clear hb hb_) | ((with_reducible refine (same_ints_below A2 A4 c2 c4 G _ HLG.out HW3.out.1 HW1.out.2.2.2 HW3.out.2 HW2.out.2.2.2).mono ?_); rintro e wf ⟨rfl, hb⟩; have hb_ := HBW.out.trans (hb.mono HBW.out.size); clear HBW; have HBW := Aside0.mk hb_; clear hb hb_) | ((with_reducible refine (same_ints_below A5 A6 c5 c6 O _ HLO.out HG1_.out HG1.out.2 HG2.out.1 HG2.out.2).mono ?_); rintro e wi ⟨rfl, hb⟩; have hb_ := HBW.out.trans (hb.mono HBW.out.size); clear HBW; have HBW := Aside0.mk hb_; clear hb hb_)) | (go_at_call 26; first | ((with_reducible refine (pk_got (HA.out.pass HBW.out) HOA.out).mono ?_); rintro e wg ⟨A5, c5, rfl, k1, k2, hb⟩; have hb_ := HBW.out.trans (hb.mono HBW.out.size); have HG1 := Aside0.mk (And.intro k1 k2); clear k1 k2; clear HBW; have HBW := Aside0.mk hb_; clear hb hb_) | ((with_reducible refine (pk_got (HC.out.pass HBW.out) HOC.out).mono ?_); rintro e wh ⟨A6, c6, rfl, k1, k2, hb⟩; have hb_ := HBW.out.trans (hb.mono HBW.out.size); have HG2 := Aside0.mk (And.intro k1 k2); have HG1_ := Aside0.mk (Kd.C_below HG1.out.1 hb); clear k1 k2; clear HBW; have HBW := Aside0.mk hb_; clear hb hb_)) | (go_at_call 32; first | ((with_reducible refine (pk_measure (HA.out.pass HBW.out) HMA.out).mono ?_); rintro e wj ⟨rfl, hb⟩; have hb_ := HBW.out.trans (hb.mono HBW.out.size); clear HBW; have HBW := Aside0.mk hb_; clear hb hb_) | ((with_reducible refine (pk_measure (HC.out.pass HBW.out) HMC.out).mono ?_); rintro e wk ⟨rfl, hb⟩; have hb_ := HBW.out.trans (hb.mono HBW.out.size); clear HBW; have HBW := Aside0.mk hb_; clear hb hb_)) | (go_at_call 36; first | ((with_reducible refine (pk_picks (HA.out.pass HBW.out) HXA.out).mono ?_); rintro e wz ⟨rfl, hwz⟩; subst hwz) | ((with_reducible refine (pk_picks (HC.out.pass HBW.out) HXC.out).mono ?_); rintro e wz ⟨rfl, hwz⟩; subst hwz)) | (go_at_call 27; first | ((with_reducible refine (pk_outcome (HA.out.pass HBW.out) HUA.out).mono ?_); rintro e wz ⟨rfl, hwz⟩; subst hwz) | ((with_reducible refine (pk_outcome (HC.out.pass HBW.out) HUC.out).mono ?_); rintro e wz ⟨rfl, hwz⟩; subst hwz)) | (go_at_call 17; first | ((with_reducible refine (pk_done (HA.out.pass HBW.out) HDA.out).mono ?_); rintro e wl ⟨rfl, hb⟩; have hb_ := HBW.out.trans (hb.mono HBW.out.size); clear HBW; have HBW := Aside0.mk hb_; clear hb hb_) | ((with_reducible refine (pk_done (HC.out.pass HBW.out) HDC.out).mono ?_); rintro e wm ⟨rfl, hb⟩; have hb_ := HBW.out.trans (hb.mono HBW.out.size); clear HBW; have HBW := Aside0.mk hb_; clear hb hb_)) | (go_at_call 34; first | ((with_reducible refine (pk_ready (HA.out.pass HBW.out) HRA.out).mono ?_); rintro e wn ⟨A7, rfl, k1, hb⟩; have hb_ := HBW.out.trans (hb.mono HBW.out.size); have HR1 := Aside0.mk k1; clear k1; clear HBW; have HBW := Aside0.mk hb_; clear hb hb_) | ((with_reducible refine (pk_ready (HC.out.pass HBW.out) HRC.out).mono ?_); rintro e wo ⟨A8, rfl, k1, hb⟩; have hb_ := HBW.out.trans (hb.mono HBW.out.size); have HR2 := Aside0.mk k1; have HR1_ := Aside0.mk (Kd.C_below HR1.out hb); clear k1; clear HBW; have HBW := Aside0.mk hb_; clear hb hb_)) | (go_at_call 44; ((with_reducible refine (same_moves_below A7 A8 _ _ L _ HLL.out HR1_.out (Nat.le_refl _) HR2.out (Nat.le_refl _)).mono ?_); rintro e wp ⟨rfl, hb⟩; have hb_ := HBW.out.trans (hb.mono HBW.out.size); clear HBW; have HBW := Aside0.mk hb_; clear hb hb_)))
      go_ret
      exact ⟨rfl, HBW.out⟩
end Go.Proofs.Ythcchpbidbbiaaa.Sc
namespace Go.Proofs.Ythcchpbidbbiaaa.Sc
open Go.RowKit Go.Proofs.YthcchpbidbbiaaaW.PrintWords Go.Proofs.YthcchpbidbbiaaaW.PrintLast Go.Proofs.YthcchpbidbbiaaaW.PrintMore Go.Proofs.Ythcchpbidbbiaaa.PSchedSide
set_option linter.unusedVariables false
set_option linter.unusedSimpArgs false
theorem Fl.congr {w0 W : World} {N : Nat → Prop} {n : Nat} {g g' : Nat → Nat} {m m' : Nat → Mach} (h : Fl w0 W N n g m) (hg : ∀ i, i < n → g' i = g i) (hm : ∀ i, i < n → m' i = m i) : Fl w0 W N n g' m' := by
  obtain ⟨s, h1, h2⟩ := h.out
  refine ⟨⟨s, fun i hi => ?_, fun i j hi hj hij k => ?_⟩, h.nlt, h.bel, fun i hi => ?_⟩
  · rw [hg i hi, hm i hi]; exact h1 i hi
  · rw [hg i hi, hg j hj]; exact h2 i j hi hj hij k
  · rw [hm i hi]; exact h.inv i hi
/-- The machines of a list: where each lies, and what it is. -/
def gOf (l : List (Nat × Mach)) (i : Nat) : Nat := (l.getD i (0, m0)).1
def mOf (l : List (Nat × Mach)) (i : Nat) : Mach := (l.getD i (0, m0)).2
theorem gOf_eq {l : List (Nat × Mach)} {i g : Nat} {m : Mach} (h : l[i]? = some (g, m)) : gOf l i = g := by
  unfold gOf; rw [List.getD_eq_getElem?_getD, h]; rfl
theorem mOf_eq {l : List (Nat × Mach)} {i g : Nat} {m : Mach} (h : l[i]? = some (g, m)) : mOf l i = m := by
  unfold mOf; rw [List.getD_eq_getElem?_getD, h]; rfl
theorem lt_of_get {l : List (Nat × Mach)} {i : Nat} {x : Nat × Mach} (h : l[i]? = some x) : i < l.length := by
  rcases Nat.lt_or_ge i l.length with h1 | h1
  · exact h1
  · rw [List.getElem?_eq_none h1] at h; simp at h
structure LawL (w W : World) (M : Nat → Prop) (X : Raw) (b1 b4 : Nat) (pw pj pr : Int) (v : Value) (xs : List Int) (l : List (Nat × Mach)) : Prop where
  fl : Fl w W (Nb b1 b4 v M) l.length (gOf l) (mOf l)
  wb : W.heap[b1]? = some (.cells (wcells X) 37 (0, 0))
  pb : W.heap[b4]? = some (.cells #[.int .i64 pw, .int .i64 pj, .int .i64 pr] 23 (0, 0))
  js : Own (Kd.int .i64) 3 W v xs
  eq : ∀ i, i < l.length → (mOf l i).jobs = xs ∧ (mOf l i).pw = pw
section
variable {w W W' : World} {M : Nat → Prop} {X : Raw} {b1 b4 g : Nat} {pw pj pr : Int} {v : Value} {xs : List Int} {m m' : Mach} {l : List (Nat × Mach)}
theorem Law.toL (h : Law w W M X b1 b4 pw pj pr v xs g m) : LawL w W M X b1 b4 pw pj pr v xs [(g, m)] := by
  obtain ⟨s, hI, hF⟩ := h.run.out
  refine ⟨⟨⟨fun _ => s, fun i hi => ?_, fun i j hi hj hij => ?_⟩, h.run.nlt, h.run.bel, fun i hi => ?_⟩, h.wb, h.pb, h.js, fun i hi => ?_⟩
  · have : i = 0 := by simp at hi; exact hi
    subst this
    exact ⟨hI, hF⟩
  · exact absurd ((show i = 0 by simp at hi; exact hi).trans (show j = 0 by simp at hj; exact hj).symm) hij
  · have : i = 0 := by simp at hi; exact hi
    subst this
    exact h.run.inv
  · have : i = 0 := by simp at hi; exact hi
    subst this
    exact h.eq
theorem LawL.pass (h : LawL w W M X b1 b4 pw pj pr v xs l) (hb : Below W.heap.size W W') : LawL w W' M X b1 b4 pw pj pr v xs l :=
  ⟨h.fl.pass hb, (hb.block _ (blk_lt h.wb)).trans h.wb, (hb.block _ (blk_lt h.pb)).trans h.pb, h.js.below hb, h.eq⟩
theorem LawL.run (h : LawL w W M X b1 b4 pw pj pr v xs l) {i : Nat} (hi : l[i]? = some (g, m)) : Run w W (Nb b1 b4 v M) g m := by
  have := h.fl.run (lt_of_get hi)
  rw [gOf_eq hi, mOf_eq hi] at this
  exact this
theorem LawL.eqs (h : LawL w W M X b1 b4 pw pj pr v xs l) {i : Nat} (hi : l[i]? = some (g, m)) : m.jobs = xs ∧ m.pw = pw := by
  have := h.eq i (lt_of_get hi)
  rw [mOf_eq hi] at this
  exact this
theorem LawL.alloc (h : LawL w W M X b1 b4 pw pj pr v xs l) (o : Obj) : LawL w (W.alloc o) M X b1 b4 pw pj pr v xs l := h.pass (below_alloc (Below.refl _ _) o)
theorem Fl.add {n : Nat} {gg : Nat → Nat} {mm : Nat → Mach} (h : Fl w W M n gg mm) (hb : Below W.heap.size W W') {M' : Nat → Prop} (hM : ∀ k, M' k → W.heap.size ≤ k ∧ k < W'.heap.size) : Fl w W' (fun k => M k ∨ M' k) n gg mm := by
  obtain ⟨s, h1, h2⟩ := h.out
  have hp := h.pass hb
  refine ⟨⟨s, fun i hi => ⟨(h1 i hi).1.below hb, fun k hk => ⟨((h1 i hi).2 k hk).1, ?_⟩⟩, h2⟩, ?_, hp.bel, h.inv⟩
  · rintro (hn | hn)
    · exact ((h1 i hi).2 k hk).2 hn
    · have := (hM k hn).1
      have := foot_below (h1 i hi).1 k hk
      omega
  · rintro k (hn | hn)
    · exact hp.nlt k hn
    · exact ⟨Nat.le_trans h.bel.size (hM k hn).1, (hM k hn).2⟩
theorem Fl.less {n : Nat} {gg : Nat → Nat} {mm : Nat → Mach} (h : Fl w W M n gg mm) {M' : Nat → Prop} (hM : ∀ k, M' k → M k) : Fl w W M' n gg mm := by
  obtain ⟨s, h1, h2⟩ := h.out
  exact ⟨⟨s, fun i hi => ⟨(h1 i hi).1, fun k hk => ⟨((h1 i hi).2 k hk).1, fun hn => ((h1 i hi).2 k hk).2 (hM k hn)⟩⟩, h2⟩, fun k hk => h.nlt k (hM k hk), h.bel, h.inv⟩
theorem LawL.less (h : LawL w W M X b1 b4 pw pj pr v xs l) {M' : Nat → Prop} (hM : ∀ k, M' k → M k) : LawL w W M' X b1 b4 pw pj pr v xs l := by
  refine ⟨h.fl.less ?_, h.wb, h.pb, h.js, h.eq⟩
  rintro k (hk | hk | hk | hk)
  · exact .inl hk
  · exact .inr (.inl hk)
  · exact .inr (.inr (.inl hk))
  · exact .inr (.inr (.inr (hM k hk)))
theorem LawL.box2 (h : LawL w W M X b1 b4 pw pj pr v xs l) (o : Obj) : LawL w (W.alloc o) (fun k => M k ∨ k = W.heap.size) X b1 b4 pw pj pr v xs l := by
  have hp := h.alloc o
  refine ⟨Fl.less (h.fl.add (below_alloc (Below.refl _ _) o) (M' := fun k => k = W.heap.size) (by rintro k rfl; simp)) ?_, hp.wb, hp.pb, hp.js, h.eq⟩
  rintro k (hk | hk | hk | hk | hk)
  · exact .inl (.inl hk)
  · exact .inl (.inr (.inl hk))
  · exact .inl (.inr (.inr (.inl hk)))
  · exact .inl (.inr (.inr (.inr hk)))
  · exact .inr hk
theorem LawL.box (h : LawL w W (fun _ => False) X b1 b4 pw pj pr v xs l) (o : Obj) : LawL w (W.alloc o) (fun k => k = W.heap.size) X b1 b4 pw pj pr v xs l := (h.box2 o).less (fun k hk => .inr hk)
theorem LawL.mlt (h : LawL w W M X b1 b4 pw pj pr v xs l) : ∀ k, M k → w.heap.size ≤ k ∧ k < W.heap.size := fun k hk => h.fl.nlt k (.inr (.inr (.inr hk)))
theorem LawL.held (h : LawL w W M X b1 b4 pw pj pr v xs l) {i : Nat} (hi : l[i]? = some (g, m)) (hr : Fl w W' (Nb b1 b4 v M) l.length (gOf l) (upd (mOf l) i m')) (hh : Held W W' (Nb b1 b4 v M)) (he : m'.jobs = m.jobs ∧ m'.pw = m.pw) : LawL w W' M X b1 b4 pw pj pr v xs (l.set i (g, m')) := by
  have hlt := lt_of_get hi
  have e1 : ∀ j, gOf (l.set i (g, m')) j = gOf l j := by
    intro j
    by_cases hj : j = i
    · subst hj
      rw [gOf_eq hi, gOf_eq (m := m') (by rw [List.getElem?_set_self hlt])]
    · unfold gOf
      rw [List.getD_eq_getElem?_getD, List.getD_eq_getElem?_getD, List.getElem?_set_ne (Ne.symm hj)]
  have e2 : ∀ j, mOf (l.set i (g, m')) j = upd (mOf l) i m' j := by
    intro j
    by_cases hj : j = i
    · subst hj
      rw [upd_same, mOf_eq (g := g) (m := m') (by rw [List.getElem?_set_self hlt])]
    · rw [upd_other _ _ hj]
      unfold mOf
      rw [List.getD_eq_getElem?_getD, List.getD_eq_getElem?_getD, List.getElem?_set_ne (Ne.symm hj)]
  refine ⟨?_, hh.blk (.inl rfl) h.wb, hh.blk (.inr (.inl rfl)) h.pb, h.js.at_ (fun k hk _ => hh.2 k (.inr (.inr (.inl hk)))), fun j hj => ?_⟩
  · rw [List.length_set]
    exact hr.congr (fun j _ => e1 j) (fun j _ => e2 j)
  · rw [List.length_set] at hj
    rw [e2]
    by_cases hji : j = i
    · subst hji
      rw [upd_same]
      have := h.eqs hi
      exact ⟨he.1.trans this.1, he.2.trans this.2⟩
    · rw [upd_other _ _ hji]
      exact h.eq j hj
/-- A pick, whether a move is ready or not. -/
def pickM (m : Mach) (k : Int) : Mach := if mvs m = [] then m else step m (picked m k)
def pickE (m : Mach) (k : Int) : Evt := if mvs m = [] then ⟨0, 0, 0, 0⟩ else evOf m (picked m k)
def pickR (m : Mach) : Int := if mvs m = [] then 180 else 0
def stopM (m : Mach) : Mach := if canStop m = true then { m with stopped := true } else m
theorem ll_pick (h : LawL w W M X b1 b4 pw pj pr v xs l) (i : Nat) (hi : l[i]? = some (g, m)) (k : Int) {z0 z1 z2 z3 er : Int} (hz : pickE m k = ⟨z0, z1, z2, z3⟩) (her : pickR m = er) : Calls Try.prog 19 #[ptr g, .int .i64 k] W fun e w' => e = .returned (.tuple #[.agg #[.int .i64 z0, .int .i64 z1, .int .i64 z2, .int .i64 z3], .int .i64 er]) ∧ LawL w w' M X b1 b4 pw pj pr v xs (l.set i (g, pickM m k)) ∧ Held W w' (Nb b1 b4 v M) := by
  unfold pickE at hz
  unfold pickR at her
  unfold pickM
  by_cases hx : mvs m = []
  · rw [if_pos hx] at hz her ⊢
    refine (r_pick_no (h.run hi) k hx).mono ?_
    rintro e w' ⟨rfl, _, hb⟩
    obtain ⟨rfl, rfl, rfl, rfl⟩ := Evt.mk.inj hz
    subst her
    have e : l.set i (g, m) = l := by
      apply List.ext_getElem?
      intro j
      by_cases hj : i = j
      · subst hj; rw [List.getElem?_set_self (lt_of_get hi), hi]
      · rw [List.getElem?_set_ne hj]
    rw [e]
    exact ⟨rfl, h.pass hb, hb.size, fun k hk => hb.block k (h.fl.nlt k hk).2⟩
  · rw [if_neg hx] at hz her ⊢
    have hc := fl_pick h.fl (lt_of_get hi) k (by rw [mOf_eq hi]; exact hx)
    rw [gOf_eq hi, mOf_eq hi] at hc
    refine hc.mono ?_
    rintro e w' ⟨rfl, hr, hh⟩
    have hv : (evOf m (picked m k)).v = .agg #[.int .i64 z0, .int .i64 z1, .int .i64 z2, .int .i64 z3] := by rw [hz]; rfl
    rw [hv]
    subst her
    exact ⟨rfl, h.held hi hr hh (step_eq (h.run hi).inv.ok (picked_mem k hx)), hh⟩
theorem ll_take (h : LawL w W M X b1 b4 pw pj pr v xs l) (i : Nat) (hi : l[i]? = some (g, m)) (x0 x1 : Int) (hx : (⟨x0, x1⟩ : S64) ∈ mvs m) {z0 z1 z2 z3 : Int} (hz : evOf m ⟨x0, x1⟩ = ⟨z0, z1, z2, z3⟩) : Calls Try.prog 30 #[ptr g, .agg #[.int .i64 x0, .int .i64 x1]] W fun e w' => e = .returned (.tuple #[.agg #[.int .i64 z0, .int .i64 z1, .int .i64 z2, .int .i64 z3], .int .i64 0]) ∧ LawL w w' M X b1 b4 pw pj pr v xs (l.set i (g, step m ⟨x0, x1⟩)) ∧ Held W w' (Nb b1 b4 v M) := by
  have hc := fl_take h.fl (lt_of_get hi) ⟨x0, x1⟩ (by rw [mOf_eq hi]; exact hx)
  rw [gOf_eq hi, mOf_eq hi] at hc
  refine hc.mono ?_
  rintro e w' ⟨rfl, hr, hh⟩
  have hv : (evOf m ⟨x0, x1⟩).v = .agg #[.int .i64 z0, .int .i64 z1, .int .i64 z2, .int .i64 z3] := by rw [hz]; rfl
  rw [hv]
  exact ⟨rfl, h.held hi hr hh (step_eq (h.run hi).inv.ok hx), hh⟩
theorem ll_cancel (h : LawL w W M X b1 b4 pw pj pr v xs l) (i : Nat) (hi : l[i]? = some (g, m)) {c : Bool} (hcs : canStop m = c) : Calls Try.prog 18 #[ptr g] W fun e w' => e = .returned (.bool c) ∧ LawL w w' M X b1 b4 pw pj pr v xs (l.set i (g, stopM m)) ∧ Held W w' (Nb b1 b4 v M) := by
  subst hcs
  unfold stopM
  cases hc : canStop m
  · rw [if_neg (by decide)]
    refine (r_cancel_no (h.run hi) hc).mono ?_
    rintro e w' ⟨rfl, _, hb⟩
    have e : l.set i (g, m) = l := by
      apply List.ext_getElem?
      intro j
      by_cases hj : i = j
      · subst hj; rw [List.getElem?_set_self (lt_of_get hi), hi]
      · rw [List.getElem?_set_ne hj]
    rw [e]
    exact ⟨rfl, h.pass hb, hb.size, fun k hk => hb.block k (h.fl.nlt k hk).2⟩
  · rw [if_pos rfl]
    have hcc := fl_cancel h.fl (lt_of_get hi) (by rw [mOf_eq hi]; exact hc)
    rw [gOf_eq hi, mOf_eq hi] at hcc
    refine hcc.mono ?_
    rintro e w' ⟨rfl, hr, hh⟩
    exact ⟨rfl, h.held hi hr hh ⟨rfl, rfl⟩, hh⟩
theorem ll_copy (h : LawL w W M X b1 b4 pw pj pr v xs l) (i : Nat) (hi : l[i]? = some (g, m)) : Calls Try.prog 42 #[ptr g] W fun e w' => ∃ g2, e = .returned (ptr g2) ∧ LawL w w' M X b1 b4 pw pj pr v xs (l ++ [(g2, m)]) ∧ Below W.heap.size W w' := by
  have hc := fl_copy h.fl (lt_of_get hi)
  rw [gOf_eq hi] at hc
  refine hc.mono ?_
  rintro e w' ⟨g2, rfl, hF, hb⟩
  have hp := h.pass hb
  have e1 : ∀ j, j < l.length + 1 → gOf (l ++ [(g2, m)]) j = upd (gOf l) l.length g2 j := by
    intro j hj
    by_cases e : j = l.length
    · subst e; rw [upd_same]; unfold gOf; rw [List.getD_eq_getElem?_getD, List.getElem?_append_right (Nat.le_refl _)]; simp
    · rw [upd_other _ _ e]; unfold gOf; rw [List.getD_eq_getElem?_getD, List.getElem?_append_left (by omega), List.getD_eq_getElem?_getD]
  have e2 : ∀ j, j < l.length + 1 → mOf (l ++ [(g2, m)]) j = upd (mOf l) l.length (mOf l i) j := by
    intro j hj
    by_cases e : j = l.length
    · subst e; rw [upd_same, mOf_eq hi]; unfold mOf; rw [List.getD_eq_getElem?_getD, List.getElem?_append_right (Nat.le_refl _)]; simp
    · rw [upd_other _ _ e]; unfold mOf; rw [List.getD_eq_getElem?_getD, List.getElem?_append_left (by omega), List.getD_eq_getElem?_getD]
  refine ⟨g2, rfl, ⟨?_, hp.wb, hp.pb, hp.js, fun j hj => ?_⟩, hb⟩
  · rw [List.length_append]
    exact hF.congr (fun j hj => e1 j hj) (fun j hj => e2 j hj)
  · rw [List.length_append] at hj
    rw [e2 j hj]
    by_cases e : j = l.length
    · subst e; rw [upd_same, mOf_eq hi]; exact h.eqs hi
    · rw [upd_other _ _ e]; exact h.eq j (by simp at hj; omega)
theorem pick_inv (hI : Inv m) (k : Int) : Inv (pickM m k) := by
  unfold pickM
  by_cases hx : mvs m = []
  · rw [if_pos hx]; exact hI
  · rw [if_neg hx]; exact inv_step hI (picked_mem k hx)
end
end Go.Proofs.Ythcchpbidbbiaaa.Sc
namespace Go.Proofs.Ythcchpbidbbiaaa.Sc
open Go.ChangeShapes Go.WideShapes Go.ChangeAt Go.RowKit Go.Joins Go.Deep
open Go.Proofs.YthcchpbidbbiaaaW
set_option linter.unusedVariables false
section
variable {H : Type} {enc : TypeId × Value → H} {W : World} {base : Nat} {spare : Nat → Bool} {held : Bool}
theorem ints_open2 (hsp : ∀ k, spare k = true) {fuel : Nat} {c : Value} {y : DataW H × List MemPlace} (hf : DataW.trod enc Try.prog W base spare held fuel 24 [c] = some y) : ∃ A l c', c = .slice A l.length c' ∧ PrintWords.Kd.C (PrintWords.Kd.int .i64) W A l.length l ∧ l.length ≤ c' ∧ l.length ≤ maxLen := by
  obtain ⟨a1, len1, cap1, hc⟩ := slice_form Try.underlying24 hf
  obtain ⟨z1, w1⟩ : ∃ zs, IsRowI W a1 len1 cap1 zs := by
    rcases open_ints Try.underlying24 Try.underlying3 (by kernel_rfl) hf with ⟨hcs, _⟩ | ⟨x, l, c, zs, hcs, _, hl, hm, hz, _, hcell, hwz⟩
    · rw [hc] at hcs
      simp at hcs
      obtain ⟨rfl, rfl, rfl⟩ := hcs
      exact ⟨[], .inl ⟨rfl, rfl, rfl, rfl⟩⟩
    · rw [hc] at hcs
      simp at hcs
      obtain ⟨rfl, rfl, rfl⟩ := hcs
      exact ⟨zs, .inr ⟨_, rfl, hl, hm, by simpa [hsp] using hz, hcell, hwz⟩⟩
  obtain ⟨l0, rfl, hr0, hm0, hw0, hc0⟩ := PrintWords.ReadsInt.ofRowC w1
  simp only [List.cons.injEq, and_true] at hc
  exact ⟨a1, l0, cap1, hc, PrintWords.Kd.C_of_reads (d := (0 : Int)) (h1 := fun _ => rfl) hr0, hc0, hm0⟩
set_option maxRecDepth 100000 in
theorem work_open2 (hsp : ∀ k, spare k = true) {r : Reach} {b0 : Nat} {v : Value} {d : DataW H} {p : List MemPlace} (hv : Value.okWide Try.prog W r b0 37 v) (h : DataW.Trod enc Try.prog W base spare held 37 v d p) : ∃ X : Raw, v = .agg X.cs ∧ X.In W ∧ X.l4.length ≤ maxLen := by
  obtain ⟨cs, rfl, hsz⟩ := okWide_struct Try.underlying37 hv
  obtain ⟨c0, c1, c2, c3, c4, c5, rfl⟩ := array6 (hsz.trans (by kernel_rfl))
  obtain ⟨fuel, hf⟩ := h
  obtain ⟨y0, y1, y2, y3, n, hx, _, h0, h1, h2, h3⟩ := trod_struct4 Try.underlying37 hf
  have s23 : Try.prog.cellsOf 23 = 3 := by kernel_rfl
  have s24 : Try.prog.cellsOf 24 = 1 := by kernel_rfl
  have s3 : Try.prog.cellsOf 3 = 1 := by kernel_rfl
  simp [Value.cells, s23] at h0
  simp [Value.cells, s24] at h1
  simp [Value.cells, s24] at h2
  simp [Value.cells, s3] at h3
  obtain ⟨z0, z1, z2, m, _, _, k0, k1, k2⟩ := trod_struct3 Try.underlying23 h0
  simp [s3] at k0 k1 k2
  obtain ⟨x0, e0, _, _⟩ := DataW.trod_int Try.underlying3 k0
  obtain ⟨x1, e1, _, _⟩ := DataW.trod_int Try.underlying3 k1
  obtain ⟨x2, e2, _, _⟩ := DataW.trod_int Try.underlying3 k2
  obtain ⟨x5, e5, _, _⟩ := DataW.trod_int Try.underlying3 h3
  obtain ⟨A3, l3, k3, e3, hC3, hl3⟩ := ints_open hsp h1
  obtain ⟨A4, l4, k4, e4, hC4, hl4, hm4⟩ := ints_open2 hsp h2
  simp only [List.cons.injEq, and_true] at e0 e1 e2 e5
  subst e0 e1 e2 e3 e4 e5
  exact ⟨⟨x0, x1, x2, A3, l3, k3, A4, l4, k4, x5⟩, rfl, ⟨hC3, hl3, hC4, hl4⟩, hm4⟩
end
end Go.Proofs.Ythcchpbidbbiaaa.Sc
