/- Proved: for every Work x, SchedOnce returns true: no condition. -/
import Derived.Test.YthcchpbidbbiaaaScj
import Derived.Test.YthcchpbidbbiaaaSci
import Derived.Test.YthcchpbidbbiaaaRows
import Derived.Test.YthcchpbidbbiaaaScg
import Derived.WalkKit
import Derived.ProofKit
import Derived.OpenShut
import Derived.ShutString
import Derived.ChangeOld
import Derived.Below
import Derived.SizedLaws
import Derived.Lib.SmallJoins
namespace Go.Proofs.Ythcchpbidbbiaaa.Sc
open Go.RowKit Go.Proofs.YthcchpbidbbiaaaW.PrintWords Go.Proofs.YthcchpbidbbiaaaW.PrintLast Go.Proofs.YthcchpbidbbiaaaW.PrintMore Go.Proofs.Ythcchpbidbbiaaa.PSchedSide
open Go.Proofs.Ythcchpbidbbiaaa.PSchedOnce (S48 k48 rd_T48 at_T48)
set_option linter.unusedVariables false
set_option linter.unusedSimpArgs false
theorem make48 (W : World) (n : Nat) (hn : n ≤ 60) : (Instr.makeSlice 40 (.int .i64 (n : Int)) (.int .i64 (n : Int))).run Try.prog W = .ok (.slice (some ⟨W.heap.size, 0, none⟩) n n) (W.alloc (.cells (madeCells #[.int .i64 0, .int .i64 0, .int .i64 0] (n * 3)) 48)) := by
  have hinfo : (Try.prog.info? 48).map (fun i => (i.zero, i.size, i.bytes)) = some (some (.agg #[.int .i64 0, .int .i64 0, .int .i64 0]), 3, 24) := by kernel_rfl
  obtain ⟨i0, hi, hzz⟩ := Option.map_eq_some_iff.1 hinfo
  simp only [Prod.mk.injEq] at hzz
  obtain ⟨hz0, hz1, hz2⟩ := hzz
  have h := run_make (P := Try.prog) W 40 48 i0 _ Try.underlying40 hi hz0 .i64 .i64 (n : Int) (n : Int) (by omega) (by omega) (by rw [hz2]; omega) (by omega)
  rw [hz1] at h
  simp only [Int.toNat_natCast] at h
  exact h
theorem rd48_rep (n : Nat) (j : Int) : rd_T48 (List.replicate n (⟨0, 0, 0⟩ : S48)) j = ⟨0, 0, 0⟩ := by
  unfold rd_T48
  rw [List.getD_eq_getElem?_getD]
  by_cases h : j.toNat < n
  · rw [List.getElem?_replicate, if_pos h]; rfl
  · rw [List.getElem?_replicate, if_neg h]; rfl
theorem once_new (pw pj pr : Int) (xs : List Int) : OnceP (newM pw pj pr xs pw.toNat) (List.replicate xs.length ⟨0, 0, 0⟩) [] [] [] [] := by
  refine ⟨by simp [newM], rfl, rfl, rfl, rfl, fun j _ _ => rd48_rep _ _, fun j hj => by simp [newM] at hj, fun p h0 h1 hk => ?_, fun j hj => by simp [newM] at hj⟩
  exfalso
  have h2 : (newM pw pj pr xs pw.toNat).workers = newW pw.toNat := rfl
  have : wk (newM pw pj pr xs pw.toNat) p = ⟨1, 0, 0⟩ := by
    unfold wk
    rw [h2]
    have hl : p ≤ pw.toNat := by rw [h2] at h1; simpa [newW] using h1
    unfold rd_T99 newW
    rw [List.getD_eq_getElem?_getD, List.getElem?_replicate, if_pos (by omega)]
    rfl
  rw [this] at hk
  simp at hk
theorem OnceP.stop {m : Mach} {l : List S48} {q1 q2 q3 q4 : List Int} (h : OnceP m l q1 q2 q3 q4) : OnceP { m with stopped := true } l q1 q2 q3 q4 := ⟨h.len, h.sent, h.took, h.gave, h.got, h.s0, h.s1, h.s2, h.s3⟩
theorem OnceP.drop {m : Mach} {l : List S48} {q1 q2 q3 q4 : List Int} (h : OnceP m l q1 q2 q3 q4) : q1.drop q2.length = m.sent ∧ q3.drop q4.length = m.given ∧ q2.length ≤ q1.length ∧ q4.length ≤ q3.length ∧ q1.take q2.length = q2 ∧ q3.take q4.length = q4 := by
  rw [h.took, h.gave]
  refine ⟨by simp, by simp, by simp, by simp, by simp, by simp⟩
theorem follows_n (pw pj pr : Int) (A1 : Option Addr) (c1 : Nat) (l1 : List Int) (A2 : Option Addr) (c2 : Nat) (l2 : List S48) (w : World) (hpw : 1 ≤ pw ∧ pw ≤ 8) (hC1 : Kd.C (Kd.int .i64) w A1 l1.length l1) (hC2 : Own k48 48 w (.slice A2 l1.length c2) l2) (k p j s : Int) (h : FolOk pw l1 l2 k p j s) : Calls Try.prog 21 #[.agg #[.int .i64 pw, .int .i64 pj, .int .i64 pr], .slice A1 l1.length c1, .slice A2 l1.length c2, .agg #[.int .i64 k, .int .i64 p, .int .i64 j, .int .i64 s]] w fun e w' => e = .returned (.bool true) ∧ Below w.heap.size w w' := by
  have hr := Kd.R_reads' hC2
  have hn : l2.length = l1.length := hr.1.symm
  have := follows_ok pw pj pr A1 c1 l1 A2 c2 l2 w hpw hC1 hr.2.2 hn k p j s h
  rw [hn] at this
  exact this
theorem cut_any' (A : Option Addr) (c : Nat) (ys S : List Int) (j : Nat) (hS : ys.drop j = S) (hj : j ≤ ys.length) (hc : ys.length ≤ c) :
    ∃ (A' : Option Addr) (c' : Nat), (∀ W : World, (Instr.slice 24 (.slice A ys.length c) (some (.int .i64 (j : Int))) none none).run Try.prog W = .ok (.slice A' S.length c') W) ∧ S.length ≤ c' ∧
      (∀ w : World, Kd.C (Kd.int .i64) w A ys.length ys → Kd.C (Kd.int .i64) w A' S.length S) := by
  subst hS
  exact cut_any A c ys j hj hc
theorem cut_head' (A : Option Addr) (c : Nat) (ys S : List Int) (hS : ys.take S.length = S) (hj : S.length ≤ ys.length) (hc : ys.length ≤ c) :
    (∀ W : World, (Instr.slice 24 (.slice A ys.length c) none (some (.int .i64 (S.length : Int))) none).run Try.prog W = .ok (.slice A S.length c) W) ∧ S.length ≤ c ∧
      (∀ w : World, Kd.C (Kd.int .i64) w A ys.length ys → Kd.C (Kd.int .i64) w A S.length S) := by
  have h := cut_head A c ys S.length hj hc
  rw [hS] at h
  exact h
theorem Own.c {W : World} {A : Option Addr} {n c : Nat} {ys : List Int} (h : Own (Kd.int .i64) 3 W (.slice A n c) ys) : Kd.C (Kd.int .i64) W A ys.length ys := by
  exact (Kd.R_reads' h).2.2
theorem Own.le {W : World} {A : Option Addr} {n c : Nat} {ys : List Int} (h : Own (Kd.int .i64) 3 W (.slice A n c) ys) : ys.length ≤ c := by
  have hr := Kd.R_reads' h
  have := hr.2.1
  omega
theorem at_any' (X : Raw) (i : Int) (w : World) (h : X.In w) (hi : 0 ≤ i) : Calls Try.prog 20 #[.agg #[.int .i64 X.x0, .int .i64 X.x1, .int .i64 X.x2, .slice X.A3 X.l3.length X.c3, .slice X.A4 X.l4.length X.c4, .int .i64 X.x5], .int .i64 i] w fun e w' => ∃ r : Int, e = .returned (.int .i64 r) ∧ Below w.heap.size w w' := at_calls X i w h hi
theorem once_len {m : Mach} {l : List S48} {q1 q2 q3 q4 : List Int} (hO : Ok m) (h : OnceP m l q1 q2 q3 q4) : q1.length ≤ m.jobs.length ∧ q2.length ≤ m.jobs.length ∧ q3.length ≤ m.jobs.length ∧ q4.length ≤ m.jobs.length := by
  have h1 : q1.length = m.next.toNat := by rw [h.sent, upTo_len]
  have h2 := hO.nx
  have h3 : q1.length = q2.length + m.sent.length := by rw [h.took]; simp
  have h4 : q3.length = q4.length + m.given.length := by rw [h.gave]; simp
  have h5 : q4.length = m.got.length := by rw [h.got]
  have h6 := hO.jd
  have h7 := ct_of hO
  have h8 := working_le m.workers
  omega
theorem life_bound {m : Mach} {x : S64} {e : Evt} {m' : Mach} {l : List S48} {q1 q2 q3 q4 : List Int} (hI : Inv m) (h : OnceP m l q1 q2 q3 q4) (hx : Mv m x e m') (h5 : e.k = 5) : -1000 ≤ (rd_T48 l e.j).f2 ∧ (rd_T48 l e.j).f2 ≤ 1000 := by
  have hO := hI.ok
  cases hx with
  | step y hp h1 hy hk hl =>
    subst hy
    have h2 := wk_left hO hp.1 hp.2 hk
    have h3 := h.s2 _ hp.1 hp.2 hk
    have h4 := hO.js _ (rd_mem h2.1 h2.2.1)
    show -1000 ≤ (rd_T48 l (wk m x.f0).f1).f2 ∧ (rd_T48 l (wk m x.f0).f1).f2 ≤ 1000
    rw [h3]
    show -1000 ≤ rd m.jobs (wk m x.f0).f1 - (wk m x.f0).f2 ∧ rd m.jobs (wk m x.f0).f1 - (wk m x.f0).f2 ≤ 1000
    omega
  | _ => simp at h5
theorem fol_kinds {pw : Int} {js : List Int} {l : List S48} {k p j s : Int} (hf : FolOk pw js l k p j s) (hj : ¬ (j < 0 ∨ k = 8)) : (k = 1 ∨ k = 4 ∨ k = 5 ∨ k = 6 ∨ k = 9) ∧ 0 ≤ j ∧ j < js.length := by
  unfold FolOk at hf
  omega
set_option maxHeartbeats 64000000 in
set_option maxRecDepth 1000000 in
theorem once_walk (X : Raw) (w : World) (hX : X.In w) : Calls Try.prog 4 #[.agg #[.int .i64 X.x0, .int .i64 X.x1, .int .i64 X.x2, .slice X.A3 X.l3.length X.c3, .slice X.A4 X.l4.length X.c4, .int .i64 X.x5]] w fun e w' => e = .returned (.bool true) ∧ Below w.heap.size w w' := by
  have HB := Aside0.mk (below_alloc (Below.refl w.heap.size w) (.cells (wcells X) 37))
  have HX := Aside0.mk (heap_alloc_new w (.cells (wcells X) 37))
  have HXW := Aside0.mk hX
  clear hX
  go_enter Try.func4, Try.ntmps4
  go_wp2_with (first | (go_at_call 12; (with_reducible refine (awake_calls _).mono ?_); rintro e w1 ⟨rfl, hb⟩; have HB1 := Aside0.mk (HB.out.trans (hb.mono HB.out.size)); have HX1 := Aside0.mk ((hb.block _ (blk_lt HX.out)).trans HX.out); have HXI := Aside0.mk (HXW.out.below HB1.out); have c0 : w1.cell? ⟨w.heap.size, 0, none⟩ = some (.int .i64 X.x0) := (blk_cell HX1.out 0).trans rfl; have c1 : w1.cell? ⟨w.heap.size, 1, none⟩ = some (.int .i64 X.x1) := (blk_cell HX1.out 1).trans rfl; have c2 : w1.cell? ⟨w.heap.size, 2, none⟩ = some (.int .i64 X.x2) := (blk_cell HX1.out 2).trans rfl; have c3 : w1.cell? ⟨w.heap.size, 3, none⟩ = some (.slice X.A3 X.l3.length X.c3) := (blk_cell HX1.out 3).trans rfl; have c4 : w1.cell? ⟨w.heap.size, 4, none⟩ = some (.slice X.A4 X.l4.length X.c4) := (blk_cell HX1.out 4).trans rfl; have c5 : w1.cell? ⟨w.heap.size, 5, none⟩ = some (.int .i64 X.x5) := (blk_cell HX1.out 5).trans rfl; clear hb) | (go_at_call 16; (with_reducible refine (l_plain X HXI.out).mono ?_); rintro e w2 ⟨pw, pj, pr, A, c, xs, rfl, hp, hl, hj, hr, hb⟩; have HP := Aside0.mk hp; have HLN := Aside0.mk hl; have HJS := Aside0.mk hj; have HB2 := Aside0.mk (below_alloc (HB1.out.trans (hb.mono HB1.out.size)) (.cells #[.int .i64 pw, .int .i64 pj, .int .i64 pr] 23)); have HX2 := Aside0.mk (blk_alloc ((hb.block _ (blk_lt HX1.out)).trans HX1.out) (.cells #[.int .i64 pw, .int .i64 pj, .int .i64 pr] 23)); have HQ2 := Aside0.mk (heap_alloc_new w2 (.cells #[.int .i64 pw, .int .i64 pj, .int .i64 pr] 23)); have HV2 := Aside0.mk (Own.of rfl (Kd.R_alloc hr (.cells #[.int .i64 pw, .int .i64 pj, .int .i64 pr] 23))); have HW1 := Aside0.mk (Nat.le_trans HB1.out.size hb.size); have HV0 := Aside0.mk (fun k (hk : some k = (Value.slice A xs.length c).ownBlock) => Nat.le_trans HB1.out.size (Kd.R_base hr k hk.symm)); clear c0 c1 c2 c3 c4 c5; clear hp hl hj hr hb) | (go_at_call 15; (with_reducible refine (l_new (b1 := w.heap.size) (b4 := w2.heap.size) X A c HB2.out HP.out HLN.out HJS.out HX2.out (Nat.le_refl _) HQ2.out HW1.out HV2.out HV0.out).mono ?_); rintro e w3 ⟨g, rfl, hL, hb⟩; have HL := Aside0.mk hL; have c0 : w3.cell? ⟨w.heap.size, 0, none⟩ = some (.int .i64 X.x0) := (blk_cell HL.out.wb 0).trans rfl; have c1 : w3.cell? ⟨w.heap.size, 1, none⟩ = some (.int .i64 X.x1) := (blk_cell HL.out.wb 1).trans rfl; have c2 : w3.cell? ⟨w.heap.size, 2, none⟩ = some (.int .i64 X.x2) := (blk_cell HL.out.wb 2).trans rfl; have c3 : w3.cell? ⟨w.heap.size, 3, none⟩ = some (.slice X.A3 X.l3.length X.c3) := (blk_cell HL.out.wb 3).trans rfl; have c4 : w3.cell? ⟨w.heap.size, 4, none⟩ = some (.slice X.A4 X.l4.length X.c4) := (blk_cell HL.out.wb 4).trans rfl; have c5 : w3.cell? ⟨w.heap.size, 5, none⟩ = some (.int .i64 X.x5) := (blk_cell HL.out.wb 5).trans rfl; have d0 : w3.cell? ⟨w2.heap.size, 0, none⟩ = some (.int .i64 pw) := (blk_cell HL.out.pb 0).trans rfl; have d1 : w3.cell? ⟨w2.heap.size, 1, none⟩ = some (.int .i64 pj) := (blk_cell HL.out.pb 1).trans rfl; have d2 : w3.cell? ⟨w2.heap.size, 2, none⟩ = some (.int .i64 pr) := (blk_cell HL.out.pb 2).trans rfl; clear hL hb HX HX1 HX2 HQ2 HV2 HV0; have hw_ := once_start HL.out xs.length HLN.out; have hmk := make48 w3 xs.length HLN.out; obtain ⟨W4, hW4⟩ : ∃ W0, w3.alloc (.cells (madeCells #[.int .i64 0, .int .i64 0, .int .i64 0] (xs.length * 3)) 48) = W0 := ⟨_, rfl⟩; obtain ⟨bl, hbl⟩ : ∃ b, w3.heap.size = b := ⟨_, rfl⟩; rw [hW4, hbl] at hw_ hmk; have HW := Aside0.mk hw_; clear hw_ hW4 hbl))
  clear c0 c1 c2 c3 c4 c5 d0 d1 d2 HB HB1 HB2 HL
  have hpw : 1 ≤ pw ∧ pw ≤ 8 := HP.out.1
  have HPO := HP
  clear HP
  go_loopw [10, 11, 12, 13, 14, 15] (fun s1 s2 s3 s4 i cb wr => ∃ (k : Nat) (m : Mach) (A1 : Option Addr) (k1 : Nat) (q1 : List Int) (A2 : Option Addr) (k2 : Nat) (q2 : List Int) (A3 : Option Addr) (k3 : Nat) (q3 : List Int) (A4 : Option Addr) (k4 : Nat) (q4 : List Int) (l : List S48), s1 = .slice A1 q1.length k1 ∧ s2 = .slice A2 q2.length k2 ∧ s3 = .slice A3 q3.length k3 ∧ s4 = .slice A4 q4.length k4 ∧ i = .int .i64 k ∧ cb = .bool m.stopped ∧ OnceW w wr X w.heap.size w2.heap.size pw pj pr (.slice A xs.length c) xs g m (.slice (some ⟨bl, 0, none⟩) xs.length xs.length) l [(.slice A1 q1.length k1, q1), (.slice A2 q2.length k2, q2), (.slice A3 q3.length k3, q3), (.slice A4 q4.length k4, q4)] ∧ OnceP m l q1 q2 q3 q4 ∧ m.picks = k ∧ (m.stopped = true → X.x5 < k) ∧ m.pj = pj ∧ m.pr = pr) (fun _ _ _ _ i _ _ => 1004011 - (intOf i).toNat)
  case atStart => exact ⟨0, _, none, 0, [], none, 0, [], none, 0, [], none, 0, [], _, rfl, rfl, rfl, rfl, rfl, rfl, HW.out, once_new pw pj pr xs, rfl, fun h => by simp [newM] at h, rfl, rfl⟩
  case round =>
    obtain ⟨k, m, A1, k1, q1, A2, k2, q2, A3, k3, q3, A4, k4, q4, l, rfl, rfl, rfl, rfl, rfl, rfl, hW, hP, hk, hst, hpj, hpr⟩ := hrel
    clear HW hmk
    have HW := Aside0.mk hW
    cases hd : doneOf m
    · skip
      have hd0 := hd
      have hpos := rem_pos hW.law.run.inv.ok hd
      have hpot := hW.law.run.inv.pot
      have hbl2 := bound_le hW.law.run.inv.ok
      have hlt : (k : Int) + 1 ≤ boundOf m := by omega
      have hk62 : (k : Int) + 1 ≤ 1004010 := by omega
      have hk63 : (k : Int) ≤ 1004010 := by omega
      have HKB := Aside0.mk hk62
      have HD := Aside0.mk hd
      have HKN := Aside0.mk (show (0 : Int) ≤ (k : Int) from Int.natCast_nonneg _)
      have hlen := once_len hW.law.run.inv.ok hP
      rw [hW.law.eq.1] at hlen
      have HQL := Aside0.mk (show q1.length ≤ 60 ∧ q2.length ≤ 60 ∧ q3.length ≤ 60 ∧ q4.length ≤ 60 by have := HLN.out; omega)
      by_cases hc : (k : Int) = X.x5
      case' pos =>
        skip
        have hst0 : m.stopped = false := by
          cases h : m.stopped
          · rfl
          · have := hst h; omega
        have HCS := Aside0.mk (show canStop m = true by simp [canStop, hst0, hd])
        obtain ⟨m1, hm1⟩ : ∃ m1, ({ m with stopped := true } : Mach) = m1 := ⟨_, rfl⟩
        have HM1 := Aside0.mk hm1
        have HNE := Aside0.mk (show mvs m1 ≠ [] from progress (by rw [← hm1]; exact inv_stop hW.law.run.inv hst0) (by rw [← hm1]; exact hd))
        have HP := Aside0.mk (show OnceP m1 l q1 q2 q3 q4 by rw [← hm1]; exact hP.stop)
        have HPWL := Aside0.mk (show (m1.workers.length : Int) = pw by rw [← hm1]; show (m.workers.length : Int) = pw; rw [hW.law.run.inv.ok.nw, hW.law.eq.2])
        have HPJ := Aside0.mk (show m1.pj = pj ∧ m1.pr = pr by rw [← hm1]; exact ⟨hpj, hpr⟩)
        have HK := Aside0.mk (show m1.picks = k by rw [← hm1]; exact hk)
        have HCB := Aside0.mk (show m1.stopped = true by rw [← hm1])
        have HXS := Aside0.mk (show m1.stopped = true → X.x5 < (k : Int) + 1 from fun _ => by omega)
        have HBM := Aside0.mk (show ¬ boundOf m1 < (k : Int) + 1 by rw [← hm1]; show ¬ boundOf m < (k : Int) + 1; omega)
        have q8 : ((k : Int) == X.x5) = true := beq_iff_eq.mpr hc
        have q9 := eq_true hc
        clear hst0 hm1 hc hd hd0 hpos hpot hbl2 hlt hlen hW hP hk hst hpj hpr
        go_wp2_with fail
        refine (pk_done HW.out.law.run HD.out).mono ?_
        rintro e wa ⟨rfl, hb⟩
        have hw_ := HW.out.pass hb
        clear HW
        have HW := Aside0.mk hw_
        clear hw_
        clear hb
        have c0 : wa.cell? ⟨w.heap.size, 0, none⟩ = some (.int .i64 X.x0) := (blk_cell HW.out.law.wb 0).trans rfl
        have c1 : wa.cell? ⟨w.heap.size, 1, none⟩ = some (.int .i64 X.x1) := (blk_cell HW.out.law.wb 1).trans rfl
        have c2 : wa.cell? ⟨w.heap.size, 2, none⟩ = some (.int .i64 X.x2) := (blk_cell HW.out.law.wb 2).trans rfl
        have c3 : wa.cell? ⟨w.heap.size, 3, none⟩ = some (.slice X.A3 X.l3.length X.c3) := (blk_cell HW.out.law.wb 3).trans rfl
        have c4 : wa.cell? ⟨w.heap.size, 4, none⟩ = some (.slice X.A4 X.l4.length X.c4) := (blk_cell HW.out.law.wb 4).trans rfl
        have c5 : wa.cell? ⟨w.heap.size, 5, none⟩ = some (.int .i64 X.x5) := (blk_cell HW.out.law.wb 5).trans rfl
        go_wp2_with fail
        refine (l_cancel HW.out.law HCS.out).mono ?_
        rintro e wb ⟨rfl, hL, hh⟩
        have hw_ := HW.out.moved hL hh
        rw [HM1.out] at hw_
        clear HW
        have HW := Aside0.mk hw_
        clear hL hh hw_ HM1 HCS c0 c1 c2 c3 c4 c5
        have c0 : wb.cell? ⟨w.heap.size, 0, none⟩ = some (.int .i64 X.x0) := (blk_cell HW.out.law.wb 0).trans rfl
        have c1 : wb.cell? ⟨w.heap.size, 1, none⟩ = some (.int .i64 X.x1) := (blk_cell HW.out.law.wb 1).trans rfl
        have c2 : wb.cell? ⟨w.heap.size, 2, none⟩ = some (.int .i64 X.x2) := (blk_cell HW.out.law.wb 2).trans rfl
        have c3 : wb.cell? ⟨w.heap.size, 3, none⟩ = some (.slice X.A3 X.l3.length X.c3) := (blk_cell HW.out.law.wb 3).trans rfl
        have c4 : wb.cell? ⟨w.heap.size, 4, none⟩ = some (.slice X.A4 X.l4.length X.c4) := (blk_cell HW.out.law.wb 4).trans rfl
        have c5 : wb.cell? ⟨w.heap.size, 5, none⟩ = some (.int .i64 X.x5) := (blk_cell HW.out.law.wb 5).trans rfl
        go_wp2_with fail
      case' neg =>
        skip
        obtain ⟨m1, rfl⟩ : ∃ m1, m1 = m := ⟨_, rfl⟩
        have HNE := Aside0.mk (progress hW.law.run.inv hd)
        have HP := Aside0.mk hP
        have HPWL := Aside0.mk (show (m1.workers.length : Int) = pw by rw [hW.law.run.inv.ok.nw, hW.law.eq.2])
        have HPJ := Aside0.mk (And.intro hpj hpr)
        have HK := Aside0.mk hk
        have HXS := Aside0.mk (show m1.stopped = true → X.x5 < (k : Int) + 1 from fun h => by have := hst h; omega)
        have HBM := Aside0.mk (show ¬ boundOf m1 < (k : Int) + 1 by omega)
        have q8 : ((k : Int) == X.x5) = false := beq_eq_false_iff_ne.mpr hc
        have q9 := eq_false hc
        clear hc hd hd0 hpos hpot hbl2 hlt hlen hW hP hk hst hpj hpr
        go_wp2_with fail
        refine (pk_done HW.out.law.run HD.out).mono ?_
        rintro e wa ⟨rfl, hb⟩
        have hw_ := HW.out.pass hb
        clear HW
        have HW := Aside0.mk hw_
        clear hw_
        clear hb
        have c0 : wa.cell? ⟨w.heap.size, 0, none⟩ = some (.int .i64 X.x0) := (blk_cell HW.out.law.wb 0).trans rfl
        have c1 : wa.cell? ⟨w.heap.size, 1, none⟩ = some (.int .i64 X.x1) := (blk_cell HW.out.law.wb 1).trans rfl
        have c2 : wa.cell? ⟨w.heap.size, 2, none⟩ = some (.int .i64 X.x2) := (blk_cell HW.out.law.wb 2).trans rfl
        have c3 : wa.cell? ⟨w.heap.size, 3, none⟩ = some (.slice X.A3 X.l3.length X.c3) := (blk_cell HW.out.law.wb 3).trans rfl
        have c4 : wa.cell? ⟨w.heap.size, 4, none⟩ = some (.slice X.A4 X.l4.length X.c4) := (blk_cell HW.out.law.wb 4).trans rfl
        have c5 : wa.cell? ⟨w.heap.size, 5, none⟩ = some (.int .i64 X.x5) := (blk_cell HW.out.law.wb 5).trans rfl
        go_wp2_with fail
      all_goals
        refine (at_any' X _ _ (HXW.out.below HW.out.law.run.bel) HKN.out).mono ?_
        rintro e wc ⟨r, rfl, hb⟩
        have hw_ := HW.out.pass hb
        clear HW
        have HW := Aside0.mk hw_
        clear hw_
        clear c0 c1 c2 c3 c4 c5
        clear hb
        go_wp2_with fail
        refine (l_pickv HW.out.law r HNE.out).mono ?_
        rintro e wd ⟨z0, z1, z2, z3, rfl, hz, hL, hh⟩
        have hw_ := HW.out.moved hL hh
        have hmem := mv_of_mem (picked_mem r HNE.out)
        have hos := once_step HW.out.law.run.inv HP.out HPWL.out hmem
        have hlb := life_bound HW.out.law.run.inv HP.out hmem
        have hkb := kind_bound (kind_of_mem HW.out.law.run.inv.ok (picked_mem r HNE.out))
        rw [hz, HW.out.law.eq.1] at hos
        rw [hz] at hlb
        obtain ⟨hf, hP2⟩ := hos
        obtain ⟨m2, hm2⟩ : ∃ m2, step m1 (picked m1 r) = m2 := ⟨_, rfl⟩
        rw [hm2] at hw_ hP2 hkb
        have hq_ := hw_.pass (below_alloc (Below.refl _ _) (.cells #[.int .i64 z0, .int .i64 z1, .int .i64 z2, .int .i64 z3] 42))
        have hn_ := heap_alloc_new wd (.cells #[.int .i64 z0, .int .i64 z1, .int .i64 z2, .int .i64 z3] 42)
        obtain ⟨we, hwe⟩ : ∃ W0, wd.alloc (.cells #[.int .i64 z0, .int .i64 z1, .int .i64 z2, .int .i64 z3] 42) = W0 := ⟨_, rfl⟩
        obtain ⟨b16, hb16⟩ : ∃ b, wd.heap.size = b := ⟨_, rfl⟩
        rw [hwe] at hq_ hn_
        rw [hb16] at hn_
        have HJ2 := Aside0.mk (show m2.pj = pj ∧ m2.pr = pr from ⟨hkb.2.2.2.2.2.1.trans HPJ.out.1, hkb.2.2.2.2.2.2.1.trans HPJ.out.2⟩)
        have HST2 := Aside0.mk (show m2.stopped = m1.stopped ∧ m2.picks = ((k + 1 : Nat) : Int) ∧ (m2.stopped = true → X.x5 < ((k + 1 : Nat) : Int)) from ⟨hkb.2.2.1, by rw [hkb.2.2.2.1, HK.out]; rfl, fun h => by have := HXS.out (hkb.2.2.1.symm.trans h); omega⟩)
        have HBD := Aside0.mk (show ¬ boundOf m2 < (k : Int) + 1 by rw [hkb.1]; have := HBM.out; omega)
        clear HW
        have HW := Aside0.mk hq_
        have HE := Aside0.mk hn_
        have HF := Aside0.mk hf
        have HP2 := Aside0.mk hP2
        have HLB := Aside0.mk hlb
        clear hL hh hw_ hq_ hn_ hmem hlb hkb hf hP2 hm2 hz
        have d0 : we.cell? ⟨w2.heap.size, 0, none⟩ = some (.int .i64 pw) := (blk_cell HW.out.law.pb 0).trans rfl
        have d1 : we.cell? ⟨w2.heap.size, 1, none⟩ = some (.int .i64 pj) := (blk_cell HW.out.law.pb 1).trans rfl
        have d2 : we.cell? ⟨w2.heap.size, 2, none⟩ = some (.int .i64 pr) := (blk_cell HW.out.law.pb 2).trans rfl
        have e0 : we.cell? ⟨b16, 0, none⟩ = some (.int .i64 z0) := (blk_cell HE.out 0).trans rfl
        have e1 : we.cell? ⟨b16, 1, none⟩ = some (.int .i64 z1) := (blk_cell HE.out 1).trans rfl
        have e2 : we.cell? ⟨b16, 2, none⟩ = some (.int .i64 z2) := (blk_cell HE.out 2).trans rfl
        have e3 : we.cell? ⟨b16, 3, none⟩ = some (.int .i64 z3) := (blk_cell HE.out 3).trans rfl
        go_wp2_with fail
        clear hwe hb16
        refine (follows_n pw pj pr A c xs (some ⟨bl, 0, none⟩) xs.length l _ hpw (Kd.R_reads' HW.out.law.js).2.2 HW.out.rl z0 z1 z2 z3 HF.out).mono ?_
        rintro e wf ⟨rfl, hb⟩
        have hw_ := HW.out.pass hb
        clear HW
        have HW := Aside0.mk hw_
        clear hw_
        have he_ := (hb.block _ (blk_lt HE.out)).trans HE.out
        clear HE
        have HE := Aside0.mk he_
        clear hb he_ d0 d1 d2 e0 e1 e2 e3
        by_cases hj8 : z2 < 0 ∨ z0 = 8
        · obtain ⟨hl, n1, n4, n5, n6, n9⟩ := lives_no (l := l) HF.out hj8
          have HP3 : Aside0 (OnceP m2 l q1 q2 q3 q4) := Aside0.mk (by have h := HP2.out; rw [hl] at h; simpa only [appK, if_neg n1, if_neg n4, if_neg n6, if_neg n9] using h)
          rcases hj8 with hj | rfl
          · as_aux_lemma =>
              have j1 : decide (0 ≤ z2) = false := decide_eq_false (by omega)
              have j2 := eq_false (show ¬ 0 ≤ z2 by omega)
              have y1 : (z0 == 1) = false := beq_eq_false_iff_ne.mpr n1
              have y4 : (z0 == 4) = false := beq_eq_false_iff_ne.mpr n4
              have y6 : (z0 == 6) = false := beq_eq_false_iff_ne.mpr n6
              have y9 : (z0 == 9) = false := beq_eq_false_iff_ne.mpr n9
              have x1 := eq_false n1
              have x4 := eq_false n4
              have x6 := eq_false n6
              have x9 := eq_false n9
              clear n1 n4 n5 n6 n9 hl hj
              have e0 : wf.cell? ⟨b16, 0, none⟩ = some (.int .i64 z0) := (blk_cell HE.out 0).trans rfl
              have e1 : wf.cell? ⟨b16, 1, none⟩ = some (.int .i64 z1) := (blk_cell HE.out 1).trans rfl
              have e2 : wf.cell? ⟨b16, 2, none⟩ = some (.int .i64 z2) := (blk_cell HE.out 2).trans rfl
              have e3 : wf.cell? ⟨b16, 3, none⟩ = some (.int .i64 z3) := (blk_cell HE.out 3).trans rfl
              have hdr := HP3.out.drop
              obtain ⟨S, hS⟩ : ∃ S, m2.sent = S := ⟨_, rfl⟩
              obtain ⟨G, hG⟩ : ∃ S, m2.given = S := ⟨_, rfl⟩
              obtain ⟨A1d, k1d, hcut1, hle1, hC1⟩ := cut_any' A1 k1 q1 S q2.length (hdr.1.trans hS) hdr.2.2.1 (Own.le (HW.out.rr 0 _ rfl))
              obtain ⟨A3d, k3d, hcut3, hle3, hC3⟩ := cut_any' A3 k3 q3 G q4.length (hdr.2.1.trans hG) hdr.2.2.2.1 (Own.le (HW.out.rr 2 _ rfl))
              have g1 : decide (q1.length < q2.length) = false := decide_eq_false (by have := hdr.2.2.1; omega)
              have g2 : decide (q3.length < q4.length) = false := decide_eq_false (by have := hdr.2.2.2.1; omega)
              have g1_ := eq_false (show ¬ q1.length < q2.length by have := hdr.2.2.1; omega)
              have g2_ := eq_false (show ¬ q3.length < q4.length by have := hdr.2.2.2.1; omega)
              have hSl : (S.length : Int) ≤ pj := by have := HW.out.law.run.inv.ok.ns; rw [hS, HJ2.out.1] at this; exact this
              have hGl : (G.length : Int) ≤ pr := by have := HW.out.law.run.inv.ok.ng; rw [hG, HJ2.out.2] at this; exact this
              have s1 : decide (pj < (S.length : Int)) = false := decide_eq_false (by omega)
              have s2 : decide (pr < (G.length : Int)) = false := decide_eq_false (by omega)
              have s1_ := eq_false (show ¬ pj < (S.length : Int) by omega)
              have s2_ := eq_false (show ¬ pr < (G.length : Int) by omega)
              have HSL := Aside0.mk (show S.length ≤ 1000000 by have := HPO.out.2.1; omega)
              have HGL := Aside0.mk (show G.length ≤ 1000000 by have := HPO.out.2.2; omega)
              have HS := Aside0.mk hS
              have HG := Aside0.mk hG
              have HC1 := Aside0.mk hC1
              have HC3 := Aside0.mk hC3
              have HLE1 := Aside0.mk hle1
              have HLE3 := Aside0.mk hle3
              clear hdr hS hG hSl hGl hC1 hC3 hle1 hle3
              go_wp2_with fail
              clear e0 e1 e2 e3
              refine (pk_waiting HW.out.law.run HS.out HG.out).mono ?_
              rintro e wh ⟨B1, kb1, B2, kb2, rfl, w1_, w2_, w3_, w4_, hb⟩
              have hw_ := HW.out.pass hb
              clear HW
              have HW := Aside0.mk hw_
              clear hw_
              have HWW := Aside0.mk (And.intro w1_ (And.intro w2_ (And.intro w3_ w4_)))
              clear hb w1_ w2_ w3_ w4_
              go_wp2_with fail
              refine (same_ints_below B1 A1d kb1 k1d S _ HSL.out HWW.out.1 HWW.out.2.1 (HC1.out _ (Own.c (HW.out.rr 0 _ rfl))) HLE1.out).mono ?_
              rintro e wi ⟨rfl, hb⟩
              have hw_ := HW.out.pass hb
              clear HW
              have HW := Aside0.mk hw_
              clear hw_
              have HW3 := Aside0.mk (Kd.C_below HWW.out.2.2.1 hb)
              clear hb
              go_wp2_with fail
              refine (same_ints_below B2 A3d kb2 k3d G _ HGL.out HW3.out HWW.out.2.2.2 (HC3.out _ (Own.c (HW.out.rr 2 _ rfl))) HLE3.out).mono ?_
              rintro e wj ⟨rfl, hb⟩
              have hw_ := HW.out.pass hb
              clear HW
              have HW := Aside0.mk hw_
              clear hw_
              have d0 : wj.cell? ⟨w2.heap.size, 0, none⟩ = some (.int .i64 pw) := (blk_cell HW.out.law.pb 0).trans rfl
              have d1 : wj.cell? ⟨w2.heap.size, 1, none⟩ = some (.int .i64 pj) := (blk_cell HW.out.law.pb 1).trans rfl
              have d2 : wj.cell? ⟨w2.heap.size, 2, none⟩ = some (.int .i64 pr) := (blk_cell HW.out.law.pb 2).trans rfl
              clear hb hcut1 hcut3
              go_wp2_with fail
              refine (lawbound_calls pw pj pr A c xs _ HPO.out HLN.out HJS.out (Kd.R_reads' HW.out.law.js).2.2 (Kd.R_reads' HW.out.law.js).2.1 m2 HW.out.law.eq.1 (by rw [HW.out.law.run.inv.ok.nw, HW.out.law.eq.2])).mono ?_
              rintro e wk ⟨rfl, hb⟩
              have hw_ := HW.out.pass hb
              clear HW
              have HW := Aside0.mk hw_
              clear hw_
              clear hb d0 d1 d2
              have r1 : decide (boundOf m2 < (k : Int) + 1) = false := decide_eq_false (by have := HBD.out; omega)
              have r1_ := eq_false (show ¬ boundOf m2 < (k : Int) + 1 by have := HBD.out; omega)
              go_wp2_with fail
              go_roundw
              case rel => exact ⟨k + 1, m2, A1, k1, q1, A2, k2, q2, A3, k3, q3, A4, k4, q4, _, rfl, rfl, rfl, rfl, by go_num, by first | rw [HST2.out.1, HCB.out] | rw [HST2.out.1], HW.out, HP3.out, HST2.out.2.1, HST2.out.2.2, HJ2.out.1, HJ2.out.2⟩
              case measure => have := HKB.out; simp [intOf]; omega
          · by_cases hj0 : 0 ≤ z2
            · as_aux_lemma =>
                have j1 : decide (0 ≤ z2) = true := decide_eq_true hj0
                have j2 := eq_true hj0
                clear n1 n4 n5 n6 n9 hl hj0
                have e0 : wf.cell? ⟨b16, 0, none⟩ = some (.int .i64 8) := (blk_cell HE.out 0).trans rfl
                have e1 : wf.cell? ⟨b16, 1, none⟩ = some (.int .i64 z1) := (blk_cell HE.out 1).trans rfl
                have e2 : wf.cell? ⟨b16, 2, none⟩ = some (.int .i64 z2) := (blk_cell HE.out 2).trans rfl
                have e3 : wf.cell? ⟨b16, 3, none⟩ = some (.int .i64 z3) := (blk_cell HE.out 3).trans rfl
                have hdr := HP3.out.drop
                obtain ⟨S, hS⟩ : ∃ S, m2.sent = S := ⟨_, rfl⟩
                obtain ⟨G, hG⟩ : ∃ S, m2.given = S := ⟨_, rfl⟩
                obtain ⟨A1d, k1d, hcut1, hle1, hC1⟩ := cut_any' A1 k1 q1 S q2.length (hdr.1.trans hS) hdr.2.2.1 (Own.le (HW.out.rr 0 _ rfl))
                obtain ⟨A3d, k3d, hcut3, hle3, hC3⟩ := cut_any' A3 k3 q3 G q4.length (hdr.2.1.trans hG) hdr.2.2.2.1 (Own.le (HW.out.rr 2 _ rfl))
                have g1 : decide (q1.length < q2.length) = false := decide_eq_false (by have := hdr.2.2.1; omega)
                have g2 : decide (q3.length < q4.length) = false := decide_eq_false (by have := hdr.2.2.2.1; omega)
                have g1_ := eq_false (show ¬ q1.length < q2.length by have := hdr.2.2.1; omega)
                have g2_ := eq_false (show ¬ q3.length < q4.length by have := hdr.2.2.2.1; omega)
                have hSl : (S.length : Int) ≤ pj := by have := HW.out.law.run.inv.ok.ns; rw [hS, HJ2.out.1] at this; exact this
                have hGl : (G.length : Int) ≤ pr := by have := HW.out.law.run.inv.ok.ng; rw [hG, HJ2.out.2] at this; exact this
                have s1 : decide (pj < (S.length : Int)) = false := decide_eq_false (by omega)
                have s2 : decide (pr < (G.length : Int)) = false := decide_eq_false (by omega)
                have s1_ := eq_false (show ¬ pj < (S.length : Int) by omega)
                have s2_ := eq_false (show ¬ pr < (G.length : Int) by omega)
                have HSL := Aside0.mk (show S.length ≤ 1000000 by have := HPO.out.2.1; omega)
                have HGL := Aside0.mk (show G.length ≤ 1000000 by have := HPO.out.2.2; omega)
                have HS := Aside0.mk hS
                have HG := Aside0.mk hG
                have HC1 := Aside0.mk hC1
                have HC3 := Aside0.mk hC3
                have HLE1 := Aside0.mk hle1
                have HLE3 := Aside0.mk hle3
                clear hdr hS hG hSl hGl hC1 hC3 hle1 hle3
                go_wp2_with fail
                clear e0 e1 e2 e3
                refine (pk_waiting HW.out.law.run HS.out HG.out).mono ?_
                rintro e wh ⟨B1, kb1, B2, kb2, rfl, w1_, w2_, w3_, w4_, hb⟩
                have hw_ := HW.out.pass hb
                clear HW
                have HW := Aside0.mk hw_
                clear hw_
                have HWW := Aside0.mk (And.intro w1_ (And.intro w2_ (And.intro w3_ w4_)))
                clear hb w1_ w2_ w3_ w4_
                go_wp2_with fail
                refine (same_ints_below B1 A1d kb1 k1d S _ HSL.out HWW.out.1 HWW.out.2.1 (HC1.out _ (Own.c (HW.out.rr 0 _ rfl))) HLE1.out).mono ?_
                rintro e wi ⟨rfl, hb⟩
                have hw_ := HW.out.pass hb
                clear HW
                have HW := Aside0.mk hw_
                clear hw_
                have HW3 := Aside0.mk (Kd.C_below HWW.out.2.2.1 hb)
                clear hb
                go_wp2_with fail
                refine (same_ints_below B2 A3d kb2 k3d G _ HGL.out HW3.out HWW.out.2.2.2 (HC3.out _ (Own.c (HW.out.rr 2 _ rfl))) HLE3.out).mono ?_
                rintro e wj ⟨rfl, hb⟩
                have hw_ := HW.out.pass hb
                clear HW
                have HW := Aside0.mk hw_
                clear hw_
                have d0 : wj.cell? ⟨w2.heap.size, 0, none⟩ = some (.int .i64 pw) := (blk_cell HW.out.law.pb 0).trans rfl
                have d1 : wj.cell? ⟨w2.heap.size, 1, none⟩ = some (.int .i64 pj) := (blk_cell HW.out.law.pb 1).trans rfl
                have d2 : wj.cell? ⟨w2.heap.size, 2, none⟩ = some (.int .i64 pr) := (blk_cell HW.out.law.pb 2).trans rfl
                clear hb hcut1 hcut3
                go_wp2_with fail
                refine (lawbound_calls pw pj pr A c xs _ HPO.out HLN.out HJS.out (Kd.R_reads' HW.out.law.js).2.2 (Kd.R_reads' HW.out.law.js).2.1 m2 HW.out.law.eq.1 (by rw [HW.out.law.run.inv.ok.nw, HW.out.law.eq.2])).mono ?_
                rintro e wk ⟨rfl, hb⟩
                have hw_ := HW.out.pass hb
                clear HW
                have HW := Aside0.mk hw_
                clear hw_
                clear hb d0 d1 d2
                have r1 : decide (boundOf m2 < (k : Int) + 1) = false := decide_eq_false (by have := HBD.out; omega)
                have r1_ := eq_false (show ¬ boundOf m2 < (k : Int) + 1 by have := HBD.out; omega)
                go_wp2_with fail
                go_roundw
                case rel => exact ⟨k + 1, m2, A1, k1, q1, A2, k2, q2, A3, k3, q3, A4, k4, q4, _, rfl, rfl, rfl, rfl, by go_num, by first | rw [HST2.out.1, HCB.out] | rw [HST2.out.1], HW.out, HP3.out, HST2.out.2.1, HST2.out.2.2, HJ2.out.1, HJ2.out.2⟩
                case measure => have := HKB.out; simp [intOf]; omega
            · as_aux_lemma =>
                have j1 : decide (0 ≤ z2) = false := decide_eq_false hj0
                have j2 := eq_false hj0
                clear n1 n4 n5 n6 n9 hl hj0
                have e0 : wf.cell? ⟨b16, 0, none⟩ = some (.int .i64 8) := (blk_cell HE.out 0).trans rfl
                have e1 : wf.cell? ⟨b16, 1, none⟩ = some (.int .i64 z1) := (blk_cell HE.out 1).trans rfl
                have e2 : wf.cell? ⟨b16, 2, none⟩ = some (.int .i64 z2) := (blk_cell HE.out 2).trans rfl
                have e3 : wf.cell? ⟨b16, 3, none⟩ = some (.int .i64 z3) := (blk_cell HE.out 3).trans rfl
                have hdr := HP3.out.drop
                obtain ⟨S, hS⟩ : ∃ S, m2.sent = S := ⟨_, rfl⟩
                obtain ⟨G, hG⟩ : ∃ S, m2.given = S := ⟨_, rfl⟩
                obtain ⟨A1d, k1d, hcut1, hle1, hC1⟩ := cut_any' A1 k1 q1 S q2.length (hdr.1.trans hS) hdr.2.2.1 (Own.le (HW.out.rr 0 _ rfl))
                obtain ⟨A3d, k3d, hcut3, hle3, hC3⟩ := cut_any' A3 k3 q3 G q4.length (hdr.2.1.trans hG) hdr.2.2.2.1 (Own.le (HW.out.rr 2 _ rfl))
                have g1 : decide (q1.length < q2.length) = false := decide_eq_false (by have := hdr.2.2.1; omega)
                have g2 : decide (q3.length < q4.length) = false := decide_eq_false (by have := hdr.2.2.2.1; omega)
                have g1_ := eq_false (show ¬ q1.length < q2.length by have := hdr.2.2.1; omega)
                have g2_ := eq_false (show ¬ q3.length < q4.length by have := hdr.2.2.2.1; omega)
                have hSl : (S.length : Int) ≤ pj := by have := HW.out.law.run.inv.ok.ns; rw [hS, HJ2.out.1] at this; exact this
                have hGl : (G.length : Int) ≤ pr := by have := HW.out.law.run.inv.ok.ng; rw [hG, HJ2.out.2] at this; exact this
                have s1 : decide (pj < (S.length : Int)) = false := decide_eq_false (by omega)
                have s2 : decide (pr < (G.length : Int)) = false := decide_eq_false (by omega)
                have s1_ := eq_false (show ¬ pj < (S.length : Int) by omega)
                have s2_ := eq_false (show ¬ pr < (G.length : Int) by omega)
                have HSL := Aside0.mk (show S.length ≤ 1000000 by have := HPO.out.2.1; omega)
                have HGL := Aside0.mk (show G.length ≤ 1000000 by have := HPO.out.2.2; omega)
                have HS := Aside0.mk hS
                have HG := Aside0.mk hG
                have HC1 := Aside0.mk hC1
                have HC3 := Aside0.mk hC3
                have HLE1 := Aside0.mk hle1
                have HLE3 := Aside0.mk hle3
                clear hdr hS hG hSl hGl hC1 hC3 hle1 hle3
                go_wp2_with fail
                clear e0 e1 e2 e3
                refine (pk_waiting HW.out.law.run HS.out HG.out).mono ?_
                rintro e wh ⟨B1, kb1, B2, kb2, rfl, w1_, w2_, w3_, w4_, hb⟩
                have hw_ := HW.out.pass hb
                clear HW
                have HW := Aside0.mk hw_
                clear hw_
                have HWW := Aside0.mk (And.intro w1_ (And.intro w2_ (And.intro w3_ w4_)))
                clear hb w1_ w2_ w3_ w4_
                go_wp2_with fail
                refine (same_ints_below B1 A1d kb1 k1d S _ HSL.out HWW.out.1 HWW.out.2.1 (HC1.out _ (Own.c (HW.out.rr 0 _ rfl))) HLE1.out).mono ?_
                rintro e wi ⟨rfl, hb⟩
                have hw_ := HW.out.pass hb
                clear HW
                have HW := Aside0.mk hw_
                clear hw_
                have HW3 := Aside0.mk (Kd.C_below HWW.out.2.2.1 hb)
                clear hb
                go_wp2_with fail
                refine (same_ints_below B2 A3d kb2 k3d G _ HGL.out HW3.out HWW.out.2.2.2 (HC3.out _ (Own.c (HW.out.rr 2 _ rfl))) HLE3.out).mono ?_
                rintro e wj ⟨rfl, hb⟩
                have hw_ := HW.out.pass hb
                clear HW
                have HW := Aside0.mk hw_
                clear hw_
                have d0 : wj.cell? ⟨w2.heap.size, 0, none⟩ = some (.int .i64 pw) := (blk_cell HW.out.law.pb 0).trans rfl
                have d1 : wj.cell? ⟨w2.heap.size, 1, none⟩ = some (.int .i64 pj) := (blk_cell HW.out.law.pb 1).trans rfl
                have d2 : wj.cell? ⟨w2.heap.size, 2, none⟩ = some (.int .i64 pr) := (blk_cell HW.out.law.pb 2).trans rfl
                clear hb hcut1 hcut3
                go_wp2_with fail
                refine (lawbound_calls pw pj pr A c xs _ HPO.out HLN.out HJS.out (Kd.R_reads' HW.out.law.js).2.2 (Kd.R_reads' HW.out.law.js).2.1 m2 HW.out.law.eq.1 (by rw [HW.out.law.run.inv.ok.nw, HW.out.law.eq.2])).mono ?_
                rintro e wk ⟨rfl, hb⟩
                have hw_ := HW.out.pass hb
                clear HW
                have HW := Aside0.mk hw_
                clear hw_
                clear hb d0 d1 d2
                have r1 : decide (boundOf m2 < (k : Int) + 1) = false := decide_eq_false (by have := HBD.out; omega)
                have r1_ := eq_false (show ¬ boundOf m2 < (k : Int) + 1 by have := HBD.out; omega)
                go_wp2_with fail
                go_roundw
                case rel => exact ⟨k + 1, m2, A1, k1, q1, A2, k2, q2, A3, k3, q3, A4, k4, q4, _, rfl, rfl, rfl, rfl, by go_num, by first | rw [HST2.out.1, HCB.out] | rw [HST2.out.1], HW.out, HP3.out, HST2.out.2.1, HST2.out.2.2, HJ2.out.1, HJ2.out.2⟩
                case measure => have := HKB.out; simp [intOf]; omega
        · have hki := fol_kinds HF.out hj8
          obtain ⟨hkk, hj0, hj1⟩ := hki
          obtain ⟨y0, y1, y2, hy⟩ : ∃ y0 y1 y2, rd_T48 l z2 = ⟨y0, y1, y2⟩ := ⟨_, _, _, rfl⟩
          have HLY := Aside0.mk hy
          obtain ⟨ad, ead, t0_, t1_, t2_⟩ := at_T48 (Kd.R_reads' HW.out.rl).2.2 z2 hj0 (by have := HW.out.rl; have := (Kd.R_reads' this).1; omega)
          obtain rfl := Option.some.inj ead
          rw [add_plain] at t0_ t1_ t2_
          simp only [] at t1_ t2_
          rw [hy] at t0_ t1_ t2_
          have HY := Aside0.mk (And.intro t0_ (And.intro t1_ t2_))
          clear t0_ t1_ t2_ ead hy
          have j1 : decide (0 ≤ z2) = true := decide_eq_true hj0
          have j2 := eq_true hj0
          have j3 := eq_true hj1
          have j4 : decide (z2 < (xs.length : Int)) = true := decide_eq_true hj1
          have HJB := Aside0.mk (And.intro hj0 hj1)
          clear hj0 hj1 hj8
          rcases hkk with rfl | rfl | rfl | rfl | rfl
          · as_aux_lemma =>
              have hP3 := HP2.out
              have hll : lifeL l ⟨1, z1, z2, z3⟩ = l.set z2.toNat ⟨1, y1, y2⟩ := by simp [lifeL, HLY.out]
              rw [hll] at hP3
              have HP3_ := Aside0.mk hP3
              clear HP2 hP3 hll
              have e0 : wf.cell? ⟨b16, 0, none⟩ = some (.int .i64 1) := (blk_cell HE.out 0).trans rfl
              have e1 : wf.cell? ⟨b16, 1, none⟩ = some (.int .i64 z1) := (blk_cell HE.out 1).trans rfl
              have e2 : wf.cell? ⟨b16, 2, none⟩ = some (.int .i64 z2) := (blk_cell HE.out 2).trans rfl
              have e3 : wf.cell? ⟨b16, 3, none⟩ = some (.int .i64 z3) := (blk_cell HE.out 3).trans rfl
              go_wp2_with fail
              clear e0 e1 e2 e3
              have hb := below_drew (Below.refl wf.heap.size wf)
              have hw_ := HW.out.pass hb
              have he_ := (hb.block _ (blk_lt HE.out)).trans HE.out
              have hy_ := Aside0.mk (And.intro (pw_cell_below hb HY.out.1) (And.intro (pw_cell_below hb HY.out.2.1) (pw_cell_below hb HY.out.2.2)))
              clear HW HE HY
              have HW := Aside0.mk hw_
              have HE := Aside0.mk he_
              have HY := hy_
              clear hw_ he_ hy_ hb
              have fz := own48_free HW.out.rl z2 HJB.out.1 HJB.out.2
              have f0_ : wf.drew.frozen? ⟨bl, z2.toNat * 3, none⟩ = false := fz 0
              have f1_ := fz 1
              have f2_ := fz 2
              clear fz f0_ f1_ f2_
              refine start_ (n := 12) (S := fun w' => w'.heap[b16]? = some (.cells #[.int .i64 1, .int .i64 z1, .int .i64 z2, .int .i64 z3] 42 (0, 0)) ∧ w'.cell? ⟨bl, z2.toNat * 3, none⟩ = some (.int .i64 y0) ∧ w'.cell? ⟨bl, z2.toNat * 3 + 1, none⟩ = some (.int .i64 y1) ∧ w'.cell? ⟨bl, z2.toNat * 3 + 2, none⟩ = some (.int .i64 y2)) (ds := [11]) #[false, false, false, false, false, false, false, false, false, false, false, false] (by kernel_rfl) rfl rfl ⟨HE.out, HY.out.1, HY.out.2.1, HY.out.2.2⟩ (fun hHeld => ?_)
              generalize wf.drew = wd_ at HW HE HY hHeld ⊢
              refine pure_ (i := 0) (N := (some 83)) (v := ?_) (a' := ?_) #[true, false, false, false, false, false, false, false, false, false, false, false] rfl rfl (by kernel_rfl) (fun _ _ _ h => h) (Or.inl ⟨by rfl, ?_⟩) ?_ ?_
              rotate_left
              · intro w'
                go_simp
                with_reducible rfl
              rotate_left
              · simp only [Act.put, List.setIfInBounds_toArray, List.set_cons_zero, List.set_cons_succ, i64_w, i32_w]
                rfl
              refine pure_ (i := 1) (N := (some 84)) (v := ?_) (a' := ?_) #[true, true, false, false, false, false, false, false, false, false, false, false] rfl rfl (by kernel_rfl) (fun _ _ _ h => h) (Or.inl ⟨by rfl, ?_⟩) ?_ ?_
              rotate_left
              · intro w'
                go_simp
                with_reducible rfl
              rotate_left
              · simp only [Act.put, List.setIfInBounds_toArray, List.set_cons_zero, List.set_cons_succ, i64_w, i32_w]
                rfl
              refine pure_ (i := 3) (N := (some 86)) (v := ?_) (a' := ?_) #[true, true, false, true, false, false, false, false, false, false, false, false] rfl rfl (by kernel_rfl) (fun _ _ _ h => h) (Or.inl ⟨by rfl, ?_⟩) ?_ ?_
              rotate_left
              · intro w'
                go_simp
                with_reducible rfl
              rotate_left
              · simp only [Act.put, List.setIfInBounds_toArray, List.set_cons_zero, List.set_cons_succ, i64_w, i32_w]
                rfl
              refine pure_ (i := 4) (N := (some 87)) (v := ?_) (a' := ?_) #[true, true, false, true, true, false, false, false, false, false, false, false] rfl rfl (by kernel_rfl) (fun _ _ _ h => h) (Or.inl ⟨by rfl, ?_⟩) ?_ ?_
              rotate_left
              · intro w'
                go_simp
                with_reducible rfl
              rotate_left
              · simp only [Act.put, List.setIfInBounds_toArray, List.set_cons_zero, List.set_cons_succ, i64_w, i32_w]
                rfl
              refine take_ (i := 2) (N := (some 85)) (v := ?_) (a' := ?_) #[true, true, true, true, true, false, false, false, false, false, false, false] rfl rfl (by kernel_rfl) (fun _ _ _ h => h) (Or.inl ⟨by rfl, ?_⟩) hHeld ?_ ?_
              rotate_left
              · rintro w' ⟨s0, s1, s2, s3⟩
                have t0 : w'.cell? ⟨b16, 0, none⟩ = some (.int .i64 1) := (blk_cell s0 0).trans rfl
                have t1 : w'.cell? ⟨b16, 1, none⟩ = some (.int .i64 z1) := (blk_cell s0 1).trans rfl
                have t2 : w'.cell? ⟨b16, 2, none⟩ = some (.int .i64 z2) := (blk_cell s0 2).trans rfl
                have t3 : w'.cell? ⟨b16, 3, none⟩ = some (.int .i64 z3) := (blk_cell s0 3).trans rfl
                have t5_ := s1
                have t6_ := s2
                have t7_ := s3
                go_simp
                with_reducible rfl
              rotate_left
              · simp only [Act.put, List.setIfInBounds_toArray, List.set_cons_zero, List.set_cons_succ, i64_w, i32_w]
                rfl
              refine take_ (i := 5) (N := (some 88)) (v := ?_) (a' := ?_) #[true, true, true, true, true, true, false, false, false, false, false, false] rfl rfl (by kernel_rfl) (fun _ _ _ h => h) (Or.inl ⟨by rfl, ?_⟩) hHeld ?_ ?_
              rotate_left
              · rintro w' ⟨s0, s1, s2, s3⟩
                have t0 : w'.cell? ⟨b16, 0, none⟩ = some (.int .i64 1) := (blk_cell s0 0).trans rfl
                have t1 : w'.cell? ⟨b16, 1, none⟩ = some (.int .i64 z1) := (blk_cell s0 1).trans rfl
                have t2 : w'.cell? ⟨b16, 2, none⟩ = some (.int .i64 z2) := (blk_cell s0 2).trans rfl
                have t3 : w'.cell? ⟨b16, 3, none⟩ = some (.int .i64 z3) := (blk_cell s0 3).trans rfl
                have t5_ := s1
                have t6_ := s2
                have t7_ := s3
                go_simp
                with_reducible rfl
              rotate_left
              · simp only [Act.put, List.setIfInBounds_toArray, List.set_cons_zero, List.set_cons_succ, i64_w, i32_w]
                rfl
              refine pure_ (i := 6) (N := (some 89)) (v := ?_) (a' := ?_) #[true, true, true, true, true, true, true, false, false, false, false, false] rfl rfl (by kernel_rfl) (fun _ _ _ h => h) (Or.inl ⟨by rfl, ?_⟩) ?_ ?_
              rotate_left
              · intro w'
                go_simp
                with_reducible rfl
              rotate_left
              · simp only [Act.put, List.setIfInBounds_toArray, List.set_cons_zero, List.set_cons_succ, i64_w, i32_w]
                rfl
              refine take_ (i := 7) (N := (some 90)) (v := ?_) (a' := ?_) #[true, true, true, true, true, true, true, true, false, false, false, false] rfl rfl (by kernel_rfl) (fun _ _ _ h => h) (Or.inl ⟨by rfl, ?_⟩) hHeld ?_ ?_
              rotate_left
              · rintro w' ⟨s0, s1, s2, s3⟩
                have t0 : w'.cell? ⟨b16, 0, none⟩ = some (.int .i64 1) := (blk_cell s0 0).trans rfl
                have t1 : w'.cell? ⟨b16, 1, none⟩ = some (.int .i64 z1) := (blk_cell s0 1).trans rfl
                have t2 : w'.cell? ⟨b16, 2, none⟩ = some (.int .i64 z2) := (blk_cell s0 2).trans rfl
                have t3 : w'.cell? ⟨b16, 3, none⟩ = some (.int .i64 z3) := (blk_cell s0 3).trans rfl
                have t5_ := s1
                have t6_ := s2
                have t7_ := s3
                go_simp
                with_reducible rfl
              rotate_left
              · simp only [Act.put, List.setIfInBounds_toArray, List.set_cons_zero, List.set_cons_succ, i64_w, i32_w]
                rfl
              refine take_ (i := 8) (N := (some 91)) (v := ?_) (a' := ?_) #[true, true, true, true, true, true, true, true, true, false, false, false] rfl rfl (by kernel_rfl) (fun _ _ _ h => h) (Or.inl ⟨by rfl, ?_⟩) hHeld ?_ ?_
              rotate_left
              · rintro w' ⟨s0, s1, s2, s3⟩
                have t0 : w'.cell? ⟨b16, 0, none⟩ = some (.int .i64 1) := (blk_cell s0 0).trans rfl
                have t1 : w'.cell? ⟨b16, 1, none⟩ = some (.int .i64 z1) := (blk_cell s0 1).trans rfl
                have t2 : w'.cell? ⟨b16, 2, none⟩ = some (.int .i64 z2) := (blk_cell s0 2).trans rfl
                have t3 : w'.cell? ⟨b16, 3, none⟩ = some (.int .i64 z3) := (blk_cell s0 3).trans rfl
                have t5_ := s1
                have t6_ := s2
                have t7_ := s3
                go_simp
                with_reducible rfl
              rotate_left
              · simp only [Act.put, List.setIfInBounds_toArray, List.set_cons_zero, List.set_cons_succ, i64_w, i32_w]
                rfl
              refine one_ (i := 9) (N := (some 92)) #[true, true, true, true, true, true, true, true, true, true, false, false] rfl rfl (by kernel_rfl) (by decide) (fun K hK => ?_)
              refine goes_ Try.func22 (by kernel_rfl) rfl #[.agg #[.int .i64 y0, .int .i64 y1, .int .i64 y2], .agg #[.int .i64 1, .int .i64 z1, .int .i64 z2, .int .i64 z3]] (by rfl) rfl rfl (by simp only [List.map_toArray, List.map_cons, List.map_nil]; rfl) ?_
              refine (lives1 y0 y1 y2 z1 z2 z3 _).mono ?_
              rintro e wl ⟨rfl, hb⟩
              refine ⟨_, rfl, ?_⟩
              have hw_ := HW.out.pass hb
              have he_ := (hb.block _ (blk_lt HE.out)).trans HE.out
              have hy_ := Aside0.mk (And.intro (pw_cell_below hb HY.out.1) (And.intro (pw_cell_below hb HY.out.2.1) (pw_cell_below hb HY.out.2.2)))
              clear HW HE HY
              have HW := Aside0.mk hw_
              have HE := Aside0.mk he_
              have HY := hy_
              clear hw_ he_ hy_ hb
              refine hK.out _ _ ⟨HE.out, HY.out.1, HY.out.2.1, HY.out.2.2⟩ (fun hHeld => ?_)
              clear hK K
              refine norm_ (a' := ?_) ?_ ?_
              rotate_left
              · show Act.put _ (some 92) _ = _
                simp only [Act.put, List.setIfInBounds_toArray, List.set_cons_zero, List.set_cons_succ, i64_w, i32_w]
                rfl
              refine pure_ (i := 10) (N := (some 93)) (v := ?_) (a' := ?_) #[true, true, true, true, true, true, true, true, true, true, true, false] rfl rfl (by kernel_rfl) (fun _ _ _ h => h) (Or.inl ⟨by rfl, ?_⟩) ?_ ?_
              rotate_left
              · intro w'
                go_simp
                with_reducible rfl
              rotate_left
              · simp only [Act.put, List.setIfInBounds_toArray, List.set_cons_zero, List.set_cons_succ, i64_w, i32_w]
                rfl
              have fz := own48_free HW.out.rl z2 HJB.out.1 HJB.out.2
              have f0_ : wl.frozen? ⟨bl, z2.toNat * 3, none⟩ = false := fz 0
              have f1_ := fz 1
              have f2_ := fz 2
              have u0_ := HY.out.1
              have u1_ := HY.out.2.1
              have u2_ := HY.out.2.2
              clear fz
              refine last_ (i := 11) (N := none) #[true, true, true, true, true, true, true, true, true, true, true, true] rfl rfl (by kernel_rfl) (by decide) (fun K hK => ?_)
              refine skip_ (w1 := ?_) (by rfl) rfl ?_ ?_
              rotate_left
              · go_simp
                rfl
              refine hK.out _ _ ?_
              clear hK K
              refine done_ (by kernel_rfl) ?_
              have hpu := own48_put HW.out.rl z2 HJB.out.1 HJB.out.2 ⟨1, y1, y2⟩
              have hw_ := HW.out.put hpu.1 hpu.2
              have he_ := blk_grown (g := b16) HE.out hpu.2 (fun e => by
                obtain ⟨cc, ec⟩ := Kd.R_typed HW.out.rl bl rfl
                injection e with e
                exact blk_ne HE.out ec (by decide) e)
              clear HW HE HY f0_ f1_ f2_ u0_ u1_ u2_
              have HW := Aside0.mk hw_
              have HE := Aside0.mk he_
              clear hw_ he_ hpu hHeld
              generalize ((wl.setCell ⟨bl, z2.toNat * 3, none⟩ (.int .i64 1)).setCell ⟨bl, z2.toNat * 3 + 1, none⟩ (.int .i64 y1)).setCell ⟨bl, z2.toNat * 3 + 2, none⟩ (.int .i64 y2) = wg at HW HE ⊢
              obtain ⟨LL, hLL⟩ : ∃ L, l.set z2.toNat ⟨1, y1, y2⟩ = L := ⟨_, rfl⟩
              rw [hLL] at HW HP3_
              clear hLL
              have e0 : wg.cell? ⟨b16, 0, none⟩ = some (.int .i64 1) := (blk_cell HE.out 0).trans rfl
              have e1 : wg.cell? ⟨b16, 1, none⟩ = some (.int .i64 z1) := (blk_cell HE.out 1).trans rfl
              have e2 : wg.cell? ⟨b16, 2, none⟩ = some (.int .i64 z2) := (blk_cell HE.out 2).trans rfl
              have e3 : wg.cell? ⟨b16, 3, none⟩ = some (.int .i64 z3) := (blk_cell HE.out 3).trans rfl
              go_wp2_with (first | ((with_reducible refine gate_builtin (b := .append) (xs := #[.tmp 98, .tmp 101]) rfl ?_); at_builtin; refine Kd.R_append (Kd.int .i64) (w0 := wg) 0 rfl (.tmp 98) (.tmp 101) 24 3 (.int .i64 0) 8 rfl Try.underlying24 info3 rfl (by decide) (by decide) (.slice A1 q1.length k1) q1 z2 [.int .i64 z2] (fun _ => True) (fun _ => False) rfl rfl ?aP (fun _ hk => hk.elim) (fun _ _ => trivial) ?aO (Below.refl _ _) (Nat.zero_le _) ?aL ?_; (case aP => exact rfl); (case aO => exact (Kd.R_mono (HW.out.rr 0 (.slice A1 q1.length k1, q1) rfl) (fun _ _ => trivial))); (case aL => exact (by have := HQL.out; omega)); intro v9 wg9 hr9 hb9 hg9 hat9; obtain ⟨Q9, hQ9⟩ : ∃ Q, q1 ++ [z2] = Q := ⟨_, rfl⟩; rw [hQ9] at hr9; obtain ⟨A9, k9, hv9⟩ := Kd.R_slice hr9; subst hv9; have hw_ := HW.out.app 0 rfl hr9 hg9 hat9; clear HW; have HW := Aside0.mk (show OnceW w wg9 X w.heap.size w2.heap.size pw pj pr (.slice A xs.length c) xs g m2 (.slice (some ⟨bl, 0, none⟩) xs.length xs.length) LL [(.slice A9 Q9.length k9, Q9), (.slice A2 q2.length k2, q2), (.slice A3 q3.length k3, q3), (.slice A4 q4.length k4, q4)] from hw_); have HQ9 := Aside0.mk hQ9; clear hw_ hQ9 hr9 hb9 hg9 hat9; clear e0 e1 e2 e3))
              have HP3 : Aside0 (OnceP m2 LL Q9 q2 q3 q4) := Aside0.mk (by rw [← HQ9.out]; simpa [appK] using HP3_.out)
              have hdr := HP3.out.drop
              obtain ⟨S, hS⟩ : ∃ S, m2.sent = S := ⟨_, rfl⟩
              obtain ⟨G, hG⟩ : ∃ S, m2.given = S := ⟨_, rfl⟩
              obtain ⟨A1d, k1d, hcut1, hle1, hC1⟩ := cut_any' A9 k9 Q9 S q2.length (hdr.1.trans hS) hdr.2.2.1 (Own.le (HW.out.rr 0 _ rfl))
              obtain ⟨A3d, k3d, hcut3, hle3, hC3⟩ := cut_any' A3 k3 q3 G q4.length (hdr.2.1.trans hG) hdr.2.2.2.1 (Own.le (HW.out.rr 2 _ rfl))
              have g1 : decide (Q9.length < q2.length) = false := decide_eq_false (by have := hdr.2.2.1; omega)
              have g2 : decide (q3.length < q4.length) = false := decide_eq_false (by have := hdr.2.2.2.1; omega)
              have g1_ := eq_false (show ¬ Q9.length < q2.length by have := hdr.2.2.1; omega)
              have g2_ := eq_false (show ¬ q3.length < q4.length by have := hdr.2.2.2.1; omega)
              have hSl : (S.length : Int) ≤ pj := by have := HW.out.law.run.inv.ok.ns; rw [hS, HJ2.out.1] at this; exact this
              have hGl : (G.length : Int) ≤ pr := by have := HW.out.law.run.inv.ok.ng; rw [hG, HJ2.out.2] at this; exact this
              have s1 : decide (pj < (S.length : Int)) = false := decide_eq_false (by omega)
              have s2 : decide (pr < (G.length : Int)) = false := decide_eq_false (by omega)
              have s1_ := eq_false (show ¬ pj < (S.length : Int) by omega)
              have s2_ := eq_false (show ¬ pr < (G.length : Int) by omega)
              have HSL := Aside0.mk (show S.length ≤ 1000000 by have := HPO.out.2.1; omega)
              have HGL := Aside0.mk (show G.length ≤ 1000000 by have := HPO.out.2.2; omega)
              have HS := Aside0.mk hS
              have HG := Aside0.mk hG
              have HC1 := Aside0.mk hC1
              have HC3 := Aside0.mk hC3
              have HLE1 := Aside0.mk hle1
              have HLE3 := Aside0.mk hle3
              clear hdr hS hG hSl hGl hC1 hC3 hle1 hle3
              refine (pk_waiting HW.out.law.run HS.out HG.out).mono ?_
              rintro e wh ⟨B1, kb1, B2, kb2, rfl, w1_, w2_, w3_, w4_, hb⟩
              have hw_ := HW.out.pass hb
              clear HW
              have HW := Aside0.mk hw_
              clear hw_
              have HWW := Aside0.mk (And.intro w1_ (And.intro w2_ (And.intro w3_ w4_)))
              clear hb w1_ w2_ w3_ w4_
              go_wp2_with fail
              refine (same_ints_below B1 A1d kb1 k1d S _ HSL.out HWW.out.1 HWW.out.2.1 (HC1.out _ (Own.c (HW.out.rr 0 _ rfl))) HLE1.out).mono ?_
              rintro e wi ⟨rfl, hb⟩
              have hw_ := HW.out.pass hb
              clear HW
              have HW := Aside0.mk hw_
              clear hw_
              have HW3 := Aside0.mk (Kd.C_below HWW.out.2.2.1 hb)
              clear hb
              go_wp2_with fail
              refine (same_ints_below B2 A3d kb2 k3d G _ HGL.out HW3.out HWW.out.2.2.2 (HC3.out _ (Own.c (HW.out.rr 2 _ rfl))) HLE3.out).mono ?_
              rintro e wj ⟨rfl, hb⟩
              have hw_ := HW.out.pass hb
              clear HW
              have HW := Aside0.mk hw_
              clear hw_
              have d0 : wj.cell? ⟨w2.heap.size, 0, none⟩ = some (.int .i64 pw) := (blk_cell HW.out.law.pb 0).trans rfl
              have d1 : wj.cell? ⟨w2.heap.size, 1, none⟩ = some (.int .i64 pj) := (blk_cell HW.out.law.pb 1).trans rfl
              have d2 : wj.cell? ⟨w2.heap.size, 2, none⟩ = some (.int .i64 pr) := (blk_cell HW.out.law.pb 2).trans rfl
              clear hb hcut1 hcut3
              go_wp2_with fail
              refine (lawbound_calls pw pj pr A c xs _ HPO.out HLN.out HJS.out (Kd.R_reads' HW.out.law.js).2.2 (Kd.R_reads' HW.out.law.js).2.1 m2 HW.out.law.eq.1 (by rw [HW.out.law.run.inv.ok.nw, HW.out.law.eq.2])).mono ?_
              rintro e wk ⟨rfl, hb⟩
              have hw_ := HW.out.pass hb
              clear HW
              have HW := Aside0.mk hw_
              clear hw_
              clear hb d0 d1 d2
              have r1 : decide (boundOf m2 < (k : Int) + 1) = false := decide_eq_false (by have := HBD.out; omega)
              have r1_ := eq_false (show ¬ boundOf m2 < (k : Int) + 1 by have := HBD.out; omega)
              go_wp2_with fail
              go_roundw
              case rel => exact ⟨k + 1, m2, A9, k9, Q9, A2, k2, q2, A3, k3, q3, A4, k4, q4, _, rfl, rfl, rfl, rfl, by go_num, by first | rw [HST2.out.1, HCB.out] | rw [HST2.out.1], HW.out, HP3.out, HST2.out.2.1, HST2.out.2.2, HJ2.out.1, HJ2.out.2⟩
              case measure => have := HKB.out; simp [intOf]; omega
          · as_aux_lemma =>
              have hP3 := HP2.out
              have hll : lifeL l ⟨4, z1, z2, z3⟩ = l.set z2.toNat ⟨2, z1, y2⟩ := by simp [lifeL, HLY.out]
              rw [hll] at hP3
              have HP3_ := Aside0.mk hP3
              clear HP2 hP3 hll
              have e0 : wf.cell? ⟨b16, 0, none⟩ = some (.int .i64 4) := (blk_cell HE.out 0).trans rfl
              have e1 : wf.cell? ⟨b16, 1, none⟩ = some (.int .i64 z1) := (blk_cell HE.out 1).trans rfl
              have e2 : wf.cell? ⟨b16, 2, none⟩ = some (.int .i64 z2) := (blk_cell HE.out 2).trans rfl
              have e3 : wf.cell? ⟨b16, 3, none⟩ = some (.int .i64 z3) := (blk_cell HE.out 3).trans rfl
              go_wp2_with fail
              clear e0 e1 e2 e3
              have hb := below_drew (Below.refl wf.heap.size wf)
              have hw_ := HW.out.pass hb
              have he_ := (hb.block _ (blk_lt HE.out)).trans HE.out
              have hy_ := Aside0.mk (And.intro (pw_cell_below hb HY.out.1) (And.intro (pw_cell_below hb HY.out.2.1) (pw_cell_below hb HY.out.2.2)))
              clear HW HE HY
              have HW := Aside0.mk hw_
              have HE := Aside0.mk he_
              have HY := hy_
              clear hw_ he_ hy_ hb
              have fz := own48_free HW.out.rl z2 HJB.out.1 HJB.out.2
              have f0_ : wf.drew.frozen? ⟨bl, z2.toNat * 3, none⟩ = false := fz 0
              have f1_ := fz 1
              have f2_ := fz 2
              clear fz f0_ f1_ f2_
              refine start_ (n := 12) (S := fun w' => w'.heap[b16]? = some (.cells #[.int .i64 4, .int .i64 z1, .int .i64 z2, .int .i64 z3] 42 (0, 0)) ∧ w'.cell? ⟨bl, z2.toNat * 3, none⟩ = some (.int .i64 y0) ∧ w'.cell? ⟨bl, z2.toNat * 3 + 1, none⟩ = some (.int .i64 y1) ∧ w'.cell? ⟨bl, z2.toNat * 3 + 2, none⟩ = some (.int .i64 y2)) (ds := [11]) #[false, false, false, false, false, false, false, false, false, false, false, false] (by kernel_rfl) rfl rfl ⟨HE.out, HY.out.1, HY.out.2.1, HY.out.2.2⟩ (fun hHeld => ?_)
              generalize wf.drew = wd_ at HW HE HY hHeld ⊢
              refine pure_ (i := 0) (N := (some 83)) (v := ?_) (a' := ?_) #[true, false, false, false, false, false, false, false, false, false, false, false] rfl rfl (by kernel_rfl) (fun _ _ _ h => h) (Or.inl ⟨by rfl, ?_⟩) ?_ ?_
              rotate_left
              · intro w'
                go_simp
                with_reducible rfl
              rotate_left
              · simp only [Act.put, List.setIfInBounds_toArray, List.set_cons_zero, List.set_cons_succ, i64_w, i32_w]
                rfl
              refine pure_ (i := 1) (N := (some 84)) (v := ?_) (a' := ?_) #[true, true, false, false, false, false, false, false, false, false, false, false] rfl rfl (by kernel_rfl) (fun _ _ _ h => h) (Or.inl ⟨by rfl, ?_⟩) ?_ ?_
              rotate_left
              · intro w'
                go_simp
                with_reducible rfl
              rotate_left
              · simp only [Act.put, List.setIfInBounds_toArray, List.set_cons_zero, List.set_cons_succ, i64_w, i32_w]
                rfl
              refine pure_ (i := 3) (N := (some 86)) (v := ?_) (a' := ?_) #[true, true, false, true, false, false, false, false, false, false, false, false] rfl rfl (by kernel_rfl) (fun _ _ _ h => h) (Or.inl ⟨by rfl, ?_⟩) ?_ ?_
              rotate_left
              · intro w'
                go_simp
                with_reducible rfl
              rotate_left
              · simp only [Act.put, List.setIfInBounds_toArray, List.set_cons_zero, List.set_cons_succ, i64_w, i32_w]
                rfl
              refine pure_ (i := 4) (N := (some 87)) (v := ?_) (a' := ?_) #[true, true, false, true, true, false, false, false, false, false, false, false] rfl rfl (by kernel_rfl) (fun _ _ _ h => h) (Or.inl ⟨by rfl, ?_⟩) ?_ ?_
              rotate_left
              · intro w'
                go_simp
                with_reducible rfl
              rotate_left
              · simp only [Act.put, List.setIfInBounds_toArray, List.set_cons_zero, List.set_cons_succ, i64_w, i32_w]
                rfl
              refine take_ (i := 2) (N := (some 85)) (v := ?_) (a' := ?_) #[true, true, true, true, true, false, false, false, false, false, false, false] rfl rfl (by kernel_rfl) (fun _ _ _ h => h) (Or.inl ⟨by rfl, ?_⟩) hHeld ?_ ?_
              rotate_left
              · rintro w' ⟨s0, s1, s2, s3⟩
                have t0 : w'.cell? ⟨b16, 0, none⟩ = some (.int .i64 4) := (blk_cell s0 0).trans rfl
                have t1 : w'.cell? ⟨b16, 1, none⟩ = some (.int .i64 z1) := (blk_cell s0 1).trans rfl
                have t2 : w'.cell? ⟨b16, 2, none⟩ = some (.int .i64 z2) := (blk_cell s0 2).trans rfl
                have t3 : w'.cell? ⟨b16, 3, none⟩ = some (.int .i64 z3) := (blk_cell s0 3).trans rfl
                have t5_ := s1
                have t6_ := s2
                have t7_ := s3
                go_simp
                with_reducible rfl
              rotate_left
              · simp only [Act.put, List.setIfInBounds_toArray, List.set_cons_zero, List.set_cons_succ, i64_w, i32_w]
                rfl
              refine take_ (i := 5) (N := (some 88)) (v := ?_) (a' := ?_) #[true, true, true, true, true, true, false, false, false, false, false, false] rfl rfl (by kernel_rfl) (fun _ _ _ h => h) (Or.inl ⟨by rfl, ?_⟩) hHeld ?_ ?_
              rotate_left
              · rintro w' ⟨s0, s1, s2, s3⟩
                have t0 : w'.cell? ⟨b16, 0, none⟩ = some (.int .i64 4) := (blk_cell s0 0).trans rfl
                have t1 : w'.cell? ⟨b16, 1, none⟩ = some (.int .i64 z1) := (blk_cell s0 1).trans rfl
                have t2 : w'.cell? ⟨b16, 2, none⟩ = some (.int .i64 z2) := (blk_cell s0 2).trans rfl
                have t3 : w'.cell? ⟨b16, 3, none⟩ = some (.int .i64 z3) := (blk_cell s0 3).trans rfl
                have t5_ := s1
                have t6_ := s2
                have t7_ := s3
                go_simp
                with_reducible rfl
              rotate_left
              · simp only [Act.put, List.setIfInBounds_toArray, List.set_cons_zero, List.set_cons_succ, i64_w, i32_w]
                rfl
              refine pure_ (i := 6) (N := (some 89)) (v := ?_) (a' := ?_) #[true, true, true, true, true, true, true, false, false, false, false, false] rfl rfl (by kernel_rfl) (fun _ _ _ h => h) (Or.inl ⟨by rfl, ?_⟩) ?_ ?_
              rotate_left
              · intro w'
                go_simp
                with_reducible rfl
              rotate_left
              · simp only [Act.put, List.setIfInBounds_toArray, List.set_cons_zero, List.set_cons_succ, i64_w, i32_w]
                rfl
              refine take_ (i := 7) (N := (some 90)) (v := ?_) (a' := ?_) #[true, true, true, true, true, true, true, true, false, false, false, false] rfl rfl (by kernel_rfl) (fun _ _ _ h => h) (Or.inl ⟨by rfl, ?_⟩) hHeld ?_ ?_
              rotate_left
              · rintro w' ⟨s0, s1, s2, s3⟩
                have t0 : w'.cell? ⟨b16, 0, none⟩ = some (.int .i64 4) := (blk_cell s0 0).trans rfl
                have t1 : w'.cell? ⟨b16, 1, none⟩ = some (.int .i64 z1) := (blk_cell s0 1).trans rfl
                have t2 : w'.cell? ⟨b16, 2, none⟩ = some (.int .i64 z2) := (blk_cell s0 2).trans rfl
                have t3 : w'.cell? ⟨b16, 3, none⟩ = some (.int .i64 z3) := (blk_cell s0 3).trans rfl
                have t5_ := s1
                have t6_ := s2
                have t7_ := s3
                go_simp
                with_reducible rfl
              rotate_left
              · simp only [Act.put, List.setIfInBounds_toArray, List.set_cons_zero, List.set_cons_succ, i64_w, i32_w]
                rfl
              refine take_ (i := 8) (N := (some 91)) (v := ?_) (a' := ?_) #[true, true, true, true, true, true, true, true, true, false, false, false] rfl rfl (by kernel_rfl) (fun _ _ _ h => h) (Or.inl ⟨by rfl, ?_⟩) hHeld ?_ ?_
              rotate_left
              · rintro w' ⟨s0, s1, s2, s3⟩
                have t0 : w'.cell? ⟨b16, 0, none⟩ = some (.int .i64 4) := (blk_cell s0 0).trans rfl
                have t1 : w'.cell? ⟨b16, 1, none⟩ = some (.int .i64 z1) := (blk_cell s0 1).trans rfl
                have t2 : w'.cell? ⟨b16, 2, none⟩ = some (.int .i64 z2) := (blk_cell s0 2).trans rfl
                have t3 : w'.cell? ⟨b16, 3, none⟩ = some (.int .i64 z3) := (blk_cell s0 3).trans rfl
                have t5_ := s1
                have t6_ := s2
                have t7_ := s3
                go_simp
                with_reducible rfl
              rotate_left
              · simp only [Act.put, List.setIfInBounds_toArray, List.set_cons_zero, List.set_cons_succ, i64_w, i32_w]
                rfl
              refine one_ (i := 9) (N := (some 92)) #[true, true, true, true, true, true, true, true, true, true, false, false] rfl rfl (by kernel_rfl) (by decide) (fun K hK => ?_)
              refine goes_ Try.func22 (by kernel_rfl) rfl #[.agg #[.int .i64 y0, .int .i64 y1, .int .i64 y2], .agg #[.int .i64 4, .int .i64 z1, .int .i64 z2, .int .i64 z3]] (by rfl) rfl rfl (by simp only [List.map_toArray, List.map_cons, List.map_nil]; rfl) ?_
              refine (lives4 y0 y1 y2 z1 z2 z3 _).mono ?_
              rintro e wl ⟨rfl, hb⟩
              refine ⟨_, rfl, ?_⟩
              have hw_ := HW.out.pass hb
              have he_ := (hb.block _ (blk_lt HE.out)).trans HE.out
              have hy_ := Aside0.mk (And.intro (pw_cell_below hb HY.out.1) (And.intro (pw_cell_below hb HY.out.2.1) (pw_cell_below hb HY.out.2.2)))
              clear HW HE HY
              have HW := Aside0.mk hw_
              have HE := Aside0.mk he_
              have HY := hy_
              clear hw_ he_ hy_ hb
              refine hK.out _ _ ⟨HE.out, HY.out.1, HY.out.2.1, HY.out.2.2⟩ (fun hHeld => ?_)
              clear hK K
              refine norm_ (a' := ?_) ?_ ?_
              rotate_left
              · show Act.put _ (some 92) _ = _
                simp only [Act.put, List.setIfInBounds_toArray, List.set_cons_zero, List.set_cons_succ, i64_w, i32_w]
                rfl
              refine pure_ (i := 10) (N := (some 93)) (v := ?_) (a' := ?_) #[true, true, true, true, true, true, true, true, true, true, true, false] rfl rfl (by kernel_rfl) (fun _ _ _ h => h) (Or.inl ⟨by rfl, ?_⟩) ?_ ?_
              rotate_left
              · intro w'
                go_simp
                with_reducible rfl
              rotate_left
              · simp only [Act.put, List.setIfInBounds_toArray, List.set_cons_zero, List.set_cons_succ, i64_w, i32_w]
                rfl
              have fz := own48_free HW.out.rl z2 HJB.out.1 HJB.out.2
              have f0_ : wl.frozen? ⟨bl, z2.toNat * 3, none⟩ = false := fz 0
              have f1_ := fz 1
              have f2_ := fz 2
              have u0_ := HY.out.1
              have u1_ := HY.out.2.1
              have u2_ := HY.out.2.2
              clear fz
              refine last_ (i := 11) (N := none) #[true, true, true, true, true, true, true, true, true, true, true, true] rfl rfl (by kernel_rfl) (by decide) (fun K hK => ?_)
              refine skip_ (w1 := ?_) (by rfl) rfl ?_ ?_
              rotate_left
              · go_simp
                rfl
              refine hK.out _ _ ?_
              clear hK K
              refine done_ (by kernel_rfl) ?_
              have hpu := own48_put HW.out.rl z2 HJB.out.1 HJB.out.2 ⟨2, z1, y2⟩
              have hw_ := HW.out.put hpu.1 hpu.2
              have he_ := blk_grown (g := b16) HE.out hpu.2 (fun e => by
                obtain ⟨cc, ec⟩ := Kd.R_typed HW.out.rl bl rfl
                injection e with e
                exact blk_ne HE.out ec (by decide) e)
              clear HW HE HY f0_ f1_ f2_ u0_ u1_ u2_
              have HW := Aside0.mk hw_
              have HE := Aside0.mk he_
              clear hw_ he_ hpu hHeld
              generalize ((wl.setCell ⟨bl, z2.toNat * 3, none⟩ (.int .i64 2)).setCell ⟨bl, z2.toNat * 3 + 1, none⟩ (.int .i64 z1)).setCell ⟨bl, z2.toNat * 3 + 2, none⟩ (.int .i64 y2) = wg at HW HE ⊢
              obtain ⟨LL, hLL⟩ : ∃ L, l.set z2.toNat ⟨2, z1, y2⟩ = L := ⟨_, rfl⟩
              rw [hLL] at HW HP3_
              clear hLL
              have e0 : wg.cell? ⟨b16, 0, none⟩ = some (.int .i64 4) := (blk_cell HE.out 0).trans rfl
              have e1 : wg.cell? ⟨b16, 1, none⟩ = some (.int .i64 z1) := (blk_cell HE.out 1).trans rfl
              have e2 : wg.cell? ⟨b16, 2, none⟩ = some (.int .i64 z2) := (blk_cell HE.out 2).trans rfl
              have e3 : wg.cell? ⟨b16, 3, none⟩ = some (.int .i64 z3) := (blk_cell HE.out 3).trans rfl
              go_wp2_with (first | ((with_reducible refine gate_builtin (b := .append) (xs := #[.tmp 105, .tmp 108]) rfl ?_); at_builtin; refine Kd.R_append (Kd.int .i64) (w0 := wg) 0 rfl (.tmp 105) (.tmp 108) 24 3 (.int .i64 0) 8 rfl Try.underlying24 info3 rfl (by decide) (by decide) (.slice A2 q2.length k2) q2 z2 [.int .i64 z2] (fun _ => True) (fun _ => False) rfl rfl ?aP (fun _ hk => hk.elim) (fun _ _ => trivial) ?aO (Below.refl _ _) (Nat.zero_le _) ?aL ?_; (case aP => exact rfl); (case aO => exact (Kd.R_mono (HW.out.rr 1 (.slice A2 q2.length k2, q2) rfl) (fun _ _ => trivial))); (case aL => exact (by have := HQL.out; omega)); intro v9 wg9 hr9 hb9 hg9 hat9; obtain ⟨Q9, hQ9⟩ : ∃ Q, q2 ++ [z2] = Q := ⟨_, rfl⟩; rw [hQ9] at hr9; obtain ⟨A9, k9, hv9⟩ := Kd.R_slice hr9; subst hv9; have hw_ := HW.out.app 1 rfl hr9 hg9 hat9; clear HW; have HW := Aside0.mk (show OnceW w wg9 X w.heap.size w2.heap.size pw pj pr (.slice A xs.length c) xs g m2 (.slice (some ⟨bl, 0, none⟩) xs.length xs.length) LL [(.slice A1 q1.length k1, q1), (.slice A9 Q9.length k9, Q9), (.slice A3 q3.length k3, q3), (.slice A4 q4.length k4, q4)] from hw_); have HQ9 := Aside0.mk hQ9; clear hw_ hQ9 hr9 hb9 hg9 hat9; clear e0 e1 e2 e3))
              have HP3 : Aside0 (OnceP m2 LL q1 Q9 q3 q4) := Aside0.mk (by rw [← HQ9.out]; simpa [appK] using HP3_.out)
              have hdr := HP3.out.drop
              obtain ⟨S, hS⟩ : ∃ S, m2.sent = S := ⟨_, rfl⟩
              obtain ⟨G, hG⟩ : ∃ S, m2.given = S := ⟨_, rfl⟩
              obtain ⟨A1d, k1d, hcut1, hle1, hC1⟩ := cut_any' A1 k1 q1 S Q9.length (hdr.1.trans hS) hdr.2.2.1 (Own.le (HW.out.rr 0 _ rfl))
              obtain ⟨A3d, k3d, hcut3, hle3, hC3⟩ := cut_any' A3 k3 q3 G q4.length (hdr.2.1.trans hG) hdr.2.2.2.1 (Own.le (HW.out.rr 2 _ rfl))
              have g1 : decide (q1.length < Q9.length) = false := decide_eq_false (by have := hdr.2.2.1; omega)
              have g2 : decide (q3.length < q4.length) = false := decide_eq_false (by have := hdr.2.2.2.1; omega)
              have g1_ := eq_false (show ¬ q1.length < Q9.length by have := hdr.2.2.1; omega)
              have g2_ := eq_false (show ¬ q3.length < q4.length by have := hdr.2.2.2.1; omega)
              have hSl : (S.length : Int) ≤ pj := by have := HW.out.law.run.inv.ok.ns; rw [hS, HJ2.out.1] at this; exact this
              have hGl : (G.length : Int) ≤ pr := by have := HW.out.law.run.inv.ok.ng; rw [hG, HJ2.out.2] at this; exact this
              have s1 : decide (pj < (S.length : Int)) = false := decide_eq_false (by omega)
              have s2 : decide (pr < (G.length : Int)) = false := decide_eq_false (by omega)
              have s1_ := eq_false (show ¬ pj < (S.length : Int) by omega)
              have s2_ := eq_false (show ¬ pr < (G.length : Int) by omega)
              have HSL := Aside0.mk (show S.length ≤ 1000000 by have := HPO.out.2.1; omega)
              have HGL := Aside0.mk (show G.length ≤ 1000000 by have := HPO.out.2.2; omega)
              have HS := Aside0.mk hS
              have HG := Aside0.mk hG
              have HC1 := Aside0.mk hC1
              have HC3 := Aside0.mk hC3
              have HLE1 := Aside0.mk hle1
              have HLE3 := Aside0.mk hle3
              clear hdr hS hG hSl hGl hC1 hC3 hle1 hle3
              refine (pk_waiting HW.out.law.run HS.out HG.out).mono ?_
              rintro e wh ⟨B1, kb1, B2, kb2, rfl, w1_, w2_, w3_, w4_, hb⟩
              have hw_ := HW.out.pass hb
              clear HW
              have HW := Aside0.mk hw_
              clear hw_
              have HWW := Aside0.mk (And.intro w1_ (And.intro w2_ (And.intro w3_ w4_)))
              clear hb w1_ w2_ w3_ w4_
              go_wp2_with fail
              refine (same_ints_below B1 A1d kb1 k1d S _ HSL.out HWW.out.1 HWW.out.2.1 (HC1.out _ (Own.c (HW.out.rr 0 _ rfl))) HLE1.out).mono ?_
              rintro e wi ⟨rfl, hb⟩
              have hw_ := HW.out.pass hb
              clear HW
              have HW := Aside0.mk hw_
              clear hw_
              have HW3 := Aside0.mk (Kd.C_below HWW.out.2.2.1 hb)
              clear hb
              go_wp2_with fail
              refine (same_ints_below B2 A3d kb2 k3d G _ HGL.out HW3.out HWW.out.2.2.2 (HC3.out _ (Own.c (HW.out.rr 2 _ rfl))) HLE3.out).mono ?_
              rintro e wj ⟨rfl, hb⟩
              have hw_ := HW.out.pass hb
              clear HW
              have HW := Aside0.mk hw_
              clear hw_
              have d0 : wj.cell? ⟨w2.heap.size, 0, none⟩ = some (.int .i64 pw) := (blk_cell HW.out.law.pb 0).trans rfl
              have d1 : wj.cell? ⟨w2.heap.size, 1, none⟩ = some (.int .i64 pj) := (blk_cell HW.out.law.pb 1).trans rfl
              have d2 : wj.cell? ⟨w2.heap.size, 2, none⟩ = some (.int .i64 pr) := (blk_cell HW.out.law.pb 2).trans rfl
              clear hb hcut1 hcut3
              go_wp2_with fail
              refine (lawbound_calls pw pj pr A c xs _ HPO.out HLN.out HJS.out (Kd.R_reads' HW.out.law.js).2.2 (Kd.R_reads' HW.out.law.js).2.1 m2 HW.out.law.eq.1 (by rw [HW.out.law.run.inv.ok.nw, HW.out.law.eq.2])).mono ?_
              rintro e wk ⟨rfl, hb⟩
              have hw_ := HW.out.pass hb
              clear HW
              have HW := Aside0.mk hw_
              clear hw_
              clear hb d0 d1 d2
              have r1 : decide (boundOf m2 < (k : Int) + 1) = false := decide_eq_false (by have := HBD.out; omega)
              have r1_ := eq_false (show ¬ boundOf m2 < (k : Int) + 1 by have := HBD.out; omega)
              go_wp2_with fail
              go_roundw
              case rel => exact ⟨k + 1, m2, A1, k1, q1, A9, k9, Q9, A3, k3, q3, A4, k4, q4, _, rfl, rfl, rfl, rfl, by go_num, by first | rw [HST2.out.1, HCB.out] | rw [HST2.out.1], HW.out, HP3.out, HST2.out.2.1, HST2.out.2.2, HJ2.out.1, HJ2.out.2⟩
              case measure => have := HKB.out; simp [intOf]; omega
          · as_aux_lemma =>
              have hP3 := HP2.out
              have hll : lifeL l ⟨5, z1, z2, z3⟩ = l.set z2.toNat ⟨y0, y1, (y2 + 1)⟩ := by simp [lifeL, HLY.out]
              rw [hll] at hP3
              have HP3_ := Aside0.mk hP3
              clear HP2 hP3 hll
              have HLB2 := Aside0.mk (show -1000 ≤ y2 ∧ y2 ≤ 1000 by have h := HLB.out rfl; rw [HLY.out] at h; exact h)
              have e0 : wf.cell? ⟨b16, 0, none⟩ = some (.int .i64 5) := (blk_cell HE.out 0).trans rfl
              have e1 : wf.cell? ⟨b16, 1, none⟩ = some (.int .i64 z1) := (blk_cell HE.out 1).trans rfl
              have e2 : wf.cell? ⟨b16, 2, none⟩ = some (.int .i64 z2) := (blk_cell HE.out 2).trans rfl
              have e3 : wf.cell? ⟨b16, 3, none⟩ = some (.int .i64 z3) := (blk_cell HE.out 3).trans rfl
              go_wp2_with fail
              clear e0 e1 e2 e3
              have hb := below_drew (Below.refl wf.heap.size wf)
              have hw_ := HW.out.pass hb
              have he_ := (hb.block _ (blk_lt HE.out)).trans HE.out
              have hy_ := Aside0.mk (And.intro (pw_cell_below hb HY.out.1) (And.intro (pw_cell_below hb HY.out.2.1) (pw_cell_below hb HY.out.2.2)))
              clear HW HE HY
              have HW := Aside0.mk hw_
              have HE := Aside0.mk he_
              have HY := hy_
              clear hw_ he_ hy_ hb
              have fz := own48_free HW.out.rl z2 HJB.out.1 HJB.out.2
              have f0_ : wf.drew.frozen? ⟨bl, z2.toNat * 3, none⟩ = false := fz 0
              have f1_ := fz 1
              have f2_ := fz 2
              clear fz f0_ f1_ f2_
              refine start_ (n := 12) (S := fun w' => w'.heap[b16]? = some (.cells #[.int .i64 5, .int .i64 z1, .int .i64 z2, .int .i64 z3] 42 (0, 0)) ∧ w'.cell? ⟨bl, z2.toNat * 3, none⟩ = some (.int .i64 y0) ∧ w'.cell? ⟨bl, z2.toNat * 3 + 1, none⟩ = some (.int .i64 y1) ∧ w'.cell? ⟨bl, z2.toNat * 3 + 2, none⟩ = some (.int .i64 y2)) (ds := [11]) #[false, false, false, false, false, false, false, false, false, false, false, false] (by kernel_rfl) rfl rfl ⟨HE.out, HY.out.1, HY.out.2.1, HY.out.2.2⟩ (fun hHeld => ?_)
              generalize wf.drew = wd_ at HW HE HY hHeld ⊢
              refine pure_ (i := 0) (N := (some 83)) (v := ?_) (a' := ?_) #[true, false, false, false, false, false, false, false, false, false, false, false] rfl rfl (by kernel_rfl) (fun _ _ _ h => h) (Or.inl ⟨by rfl, ?_⟩) ?_ ?_
              rotate_left
              · intro w'
                go_simp
                with_reducible rfl
              rotate_left
              · simp only [Act.put, List.setIfInBounds_toArray, List.set_cons_zero, List.set_cons_succ, i64_w, i32_w]
                rfl
              refine pure_ (i := 1) (N := (some 84)) (v := ?_) (a' := ?_) #[true, true, false, false, false, false, false, false, false, false, false, false] rfl rfl (by kernel_rfl) (fun _ _ _ h => h) (Or.inl ⟨by rfl, ?_⟩) ?_ ?_
              rotate_left
              · intro w'
                go_simp
                with_reducible rfl
              rotate_left
              · simp only [Act.put, List.setIfInBounds_toArray, List.set_cons_zero, List.set_cons_succ, i64_w, i32_w]
                rfl
              refine pure_ (i := 3) (N := (some 86)) (v := ?_) (a' := ?_) #[true, true, false, true, false, false, false, false, false, false, false, false] rfl rfl (by kernel_rfl) (fun _ _ _ h => h) (Or.inl ⟨by rfl, ?_⟩) ?_ ?_
              rotate_left
              · intro w'
                go_simp
                with_reducible rfl
              rotate_left
              · simp only [Act.put, List.setIfInBounds_toArray, List.set_cons_zero, List.set_cons_succ, i64_w, i32_w]
                rfl
              refine pure_ (i := 4) (N := (some 87)) (v := ?_) (a' := ?_) #[true, true, false, true, true, false, false, false, false, false, false, false] rfl rfl (by kernel_rfl) (fun _ _ _ h => h) (Or.inl ⟨by rfl, ?_⟩) ?_ ?_
              rotate_left
              · intro w'
                go_simp
                with_reducible rfl
              rotate_left
              · simp only [Act.put, List.setIfInBounds_toArray, List.set_cons_zero, List.set_cons_succ, i64_w, i32_w]
                rfl
              refine take_ (i := 2) (N := (some 85)) (v := ?_) (a' := ?_) #[true, true, true, true, true, false, false, false, false, false, false, false] rfl rfl (by kernel_rfl) (fun _ _ _ h => h) (Or.inl ⟨by rfl, ?_⟩) hHeld ?_ ?_
              rotate_left
              · rintro w' ⟨s0, s1, s2, s3⟩
                have t0 : w'.cell? ⟨b16, 0, none⟩ = some (.int .i64 5) := (blk_cell s0 0).trans rfl
                have t1 : w'.cell? ⟨b16, 1, none⟩ = some (.int .i64 z1) := (blk_cell s0 1).trans rfl
                have t2 : w'.cell? ⟨b16, 2, none⟩ = some (.int .i64 z2) := (blk_cell s0 2).trans rfl
                have t3 : w'.cell? ⟨b16, 3, none⟩ = some (.int .i64 z3) := (blk_cell s0 3).trans rfl
                have t5_ := s1
                have t6_ := s2
                have t7_ := s3
                go_simp
                with_reducible rfl
              rotate_left
              · simp only [Act.put, List.setIfInBounds_toArray, List.set_cons_zero, List.set_cons_succ, i64_w, i32_w]
                rfl
              refine take_ (i := 5) (N := (some 88)) (v := ?_) (a' := ?_) #[true, true, true, true, true, true, false, false, false, false, false, false] rfl rfl (by kernel_rfl) (fun _ _ _ h => h) (Or.inl ⟨by rfl, ?_⟩) hHeld ?_ ?_
              rotate_left
              · rintro w' ⟨s0, s1, s2, s3⟩
                have t0 : w'.cell? ⟨b16, 0, none⟩ = some (.int .i64 5) := (blk_cell s0 0).trans rfl
                have t1 : w'.cell? ⟨b16, 1, none⟩ = some (.int .i64 z1) := (blk_cell s0 1).trans rfl
                have t2 : w'.cell? ⟨b16, 2, none⟩ = some (.int .i64 z2) := (blk_cell s0 2).trans rfl
                have t3 : w'.cell? ⟨b16, 3, none⟩ = some (.int .i64 z3) := (blk_cell s0 3).trans rfl
                have t5_ := s1
                have t6_ := s2
                have t7_ := s3
                go_simp
                with_reducible rfl
              rotate_left
              · simp only [Act.put, List.setIfInBounds_toArray, List.set_cons_zero, List.set_cons_succ, i64_w, i32_w]
                rfl
              refine pure_ (i := 6) (N := (some 89)) (v := ?_) (a' := ?_) #[true, true, true, true, true, true, true, false, false, false, false, false] rfl rfl (by kernel_rfl) (fun _ _ _ h => h) (Or.inl ⟨by rfl, ?_⟩) ?_ ?_
              rotate_left
              · intro w'
                go_simp
                with_reducible rfl
              rotate_left
              · simp only [Act.put, List.setIfInBounds_toArray, List.set_cons_zero, List.set_cons_succ, i64_w, i32_w]
                rfl
              refine take_ (i := 7) (N := (some 90)) (v := ?_) (a' := ?_) #[true, true, true, true, true, true, true, true, false, false, false, false] rfl rfl (by kernel_rfl) (fun _ _ _ h => h) (Or.inl ⟨by rfl, ?_⟩) hHeld ?_ ?_
              rotate_left
              · rintro w' ⟨s0, s1, s2, s3⟩
                have t0 : w'.cell? ⟨b16, 0, none⟩ = some (.int .i64 5) := (blk_cell s0 0).trans rfl
                have t1 : w'.cell? ⟨b16, 1, none⟩ = some (.int .i64 z1) := (blk_cell s0 1).trans rfl
                have t2 : w'.cell? ⟨b16, 2, none⟩ = some (.int .i64 z2) := (blk_cell s0 2).trans rfl
                have t3 : w'.cell? ⟨b16, 3, none⟩ = some (.int .i64 z3) := (blk_cell s0 3).trans rfl
                have t5_ := s1
                have t6_ := s2
                have t7_ := s3
                go_simp
                with_reducible rfl
              rotate_left
              · simp only [Act.put, List.setIfInBounds_toArray, List.set_cons_zero, List.set_cons_succ, i64_w, i32_w]
                rfl
              refine take_ (i := 8) (N := (some 91)) (v := ?_) (a' := ?_) #[true, true, true, true, true, true, true, true, true, false, false, false] rfl rfl (by kernel_rfl) (fun _ _ _ h => h) (Or.inl ⟨by rfl, ?_⟩) hHeld ?_ ?_
              rotate_left
              · rintro w' ⟨s0, s1, s2, s3⟩
                have t0 : w'.cell? ⟨b16, 0, none⟩ = some (.int .i64 5) := (blk_cell s0 0).trans rfl
                have t1 : w'.cell? ⟨b16, 1, none⟩ = some (.int .i64 z1) := (blk_cell s0 1).trans rfl
                have t2 : w'.cell? ⟨b16, 2, none⟩ = some (.int .i64 z2) := (blk_cell s0 2).trans rfl
                have t3 : w'.cell? ⟨b16, 3, none⟩ = some (.int .i64 z3) := (blk_cell s0 3).trans rfl
                have t5_ := s1
                have t6_ := s2
                have t7_ := s3
                go_simp
                with_reducible rfl
              rotate_left
              · simp only [Act.put, List.setIfInBounds_toArray, List.set_cons_zero, List.set_cons_succ, i64_w, i32_w]
                rfl
              refine one_ (i := 9) (N := (some 92)) #[true, true, true, true, true, true, true, true, true, true, false, false] rfl rfl (by kernel_rfl) (by decide) (fun K hK => ?_)
              refine goes_ Try.func22 (by kernel_rfl) rfl #[.agg #[.int .i64 y0, .int .i64 y1, .int .i64 y2], .agg #[.int .i64 5, .int .i64 z1, .int .i64 z2, .int .i64 z3]] (by rfl) rfl rfl (by simp only [List.map_toArray, List.map_cons, List.map_nil]; rfl) ?_
              refine (lives5 y0 y1 y2 z1 z2 z3 _ HLB2.out).mono ?_
              rintro e wl ⟨rfl, hb⟩
              refine ⟨_, rfl, ?_⟩
              have hw_ := HW.out.pass hb
              have he_ := (hb.block _ (blk_lt HE.out)).trans HE.out
              have hy_ := Aside0.mk (And.intro (pw_cell_below hb HY.out.1) (And.intro (pw_cell_below hb HY.out.2.1) (pw_cell_below hb HY.out.2.2)))
              clear HW HE HY
              have HW := Aside0.mk hw_
              have HE := Aside0.mk he_
              have HY := hy_
              clear hw_ he_ hy_ hb
              refine hK.out _ _ ⟨HE.out, HY.out.1, HY.out.2.1, HY.out.2.2⟩ (fun hHeld => ?_)
              clear hK K
              refine norm_ (a' := ?_) ?_ ?_
              rotate_left
              · show Act.put _ (some 92) _ = _
                simp only [Act.put, List.setIfInBounds_toArray, List.set_cons_zero, List.set_cons_succ, i64_w, i32_w]
                rfl
              refine pure_ (i := 10) (N := (some 93)) (v := ?_) (a' := ?_) #[true, true, true, true, true, true, true, true, true, true, true, false] rfl rfl (by kernel_rfl) (fun _ _ _ h => h) (Or.inl ⟨by rfl, ?_⟩) ?_ ?_
              rotate_left
              · intro w'
                go_simp
                with_reducible rfl
              rotate_left
              · simp only [Act.put, List.setIfInBounds_toArray, List.set_cons_zero, List.set_cons_succ, i64_w, i32_w]
                rfl
              have fz := own48_free HW.out.rl z2 HJB.out.1 HJB.out.2
              have f0_ : wl.frozen? ⟨bl, z2.toNat * 3, none⟩ = false := fz 0
              have f1_ := fz 1
              have f2_ := fz 2
              have u0_ := HY.out.1
              have u1_ := HY.out.2.1
              have u2_ := HY.out.2.2
              clear fz
              refine last_ (i := 11) (N := none) #[true, true, true, true, true, true, true, true, true, true, true, true] rfl rfl (by kernel_rfl) (by decide) (fun K hK => ?_)
              refine skip_ (w1 := ?_) (by rfl) rfl ?_ ?_
              rotate_left
              · go_simp
                rfl
              refine hK.out _ _ ?_
              clear hK K
              refine done_ (by kernel_rfl) ?_
              have hpu := own48_put HW.out.rl z2 HJB.out.1 HJB.out.2 ⟨y0, y1, (y2 + 1)⟩
              have hw_ := HW.out.put hpu.1 hpu.2
              have he_ := blk_grown (g := b16) HE.out hpu.2 (fun e => by
                obtain ⟨cc, ec⟩ := Kd.R_typed HW.out.rl bl rfl
                injection e with e
                exact blk_ne HE.out ec (by decide) e)
              clear HW HE HY f0_ f1_ f2_ u0_ u1_ u2_
              have HW := Aside0.mk hw_
              have HE := Aside0.mk he_
              clear hw_ he_ hpu hHeld
              generalize ((wl.setCell ⟨bl, z2.toNat * 3, none⟩ (.int .i64 y0)).setCell ⟨bl, z2.toNat * 3 + 1, none⟩ (.int .i64 y1)).setCell ⟨bl, z2.toNat * 3 + 2, none⟩ (.int .i64 (y2 + 1)) = wg at HW HE ⊢
              obtain ⟨LL, hLL⟩ : ∃ L, l.set z2.toNat ⟨y0, y1, (y2 + 1)⟩ = L := ⟨_, rfl⟩
              rw [hLL] at HW HP3_
              clear hLL
              have e0 : wg.cell? ⟨b16, 0, none⟩ = some (.int .i64 5) := (blk_cell HE.out 0).trans rfl
              have e1 : wg.cell? ⟨b16, 1, none⟩ = some (.int .i64 z1) := (blk_cell HE.out 1).trans rfl
              have e2 : wg.cell? ⟨b16, 2, none⟩ = some (.int .i64 z2) := (blk_cell HE.out 2).trans rfl
              have e3 : wg.cell? ⟨b16, 3, none⟩ = some (.int .i64 z3) := (blk_cell HE.out 3).trans rfl
              go_wp2_with fail
              clear e0 e1 e2 e3
              have HP3 : Aside0 (OnceP m2 LL q1 q2 q3 q4) := Aside0.mk (by simpa [appK] using HP3_.out)
              have hdr := HP3.out.drop
              obtain ⟨S, hS⟩ : ∃ S, m2.sent = S := ⟨_, rfl⟩
              obtain ⟨G, hG⟩ : ∃ S, m2.given = S := ⟨_, rfl⟩
              obtain ⟨A1d, k1d, hcut1, hle1, hC1⟩ := cut_any' A1 k1 q1 S q2.length (hdr.1.trans hS) hdr.2.2.1 (Own.le (HW.out.rr 0 _ rfl))
              obtain ⟨A3d, k3d, hcut3, hle3, hC3⟩ := cut_any' A3 k3 q3 G q4.length (hdr.2.1.trans hG) hdr.2.2.2.1 (Own.le (HW.out.rr 2 _ rfl))
              have g1 : decide (q1.length < q2.length) = false := decide_eq_false (by have := hdr.2.2.1; omega)
              have g2 : decide (q3.length < q4.length) = false := decide_eq_false (by have := hdr.2.2.2.1; omega)
              have g1_ := eq_false (show ¬ q1.length < q2.length by have := hdr.2.2.1; omega)
              have g2_ := eq_false (show ¬ q3.length < q4.length by have := hdr.2.2.2.1; omega)
              have hSl : (S.length : Int) ≤ pj := by have := HW.out.law.run.inv.ok.ns; rw [hS, HJ2.out.1] at this; exact this
              have hGl : (G.length : Int) ≤ pr := by have := HW.out.law.run.inv.ok.ng; rw [hG, HJ2.out.2] at this; exact this
              have s1 : decide (pj < (S.length : Int)) = false := decide_eq_false (by omega)
              have s2 : decide (pr < (G.length : Int)) = false := decide_eq_false (by omega)
              have s1_ := eq_false (show ¬ pj < (S.length : Int) by omega)
              have s2_ := eq_false (show ¬ pr < (G.length : Int) by omega)
              have HSL := Aside0.mk (show S.length ≤ 1000000 by have := HPO.out.2.1; omega)
              have HGL := Aside0.mk (show G.length ≤ 1000000 by have := HPO.out.2.2; omega)
              have HS := Aside0.mk hS
              have HG := Aside0.mk hG
              have HC1 := Aside0.mk hC1
              have HC3 := Aside0.mk hC3
              have HLE1 := Aside0.mk hle1
              have HLE3 := Aside0.mk hle3
              clear hdr hS hG hSl hGl hC1 hC3 hle1 hle3
              refine (pk_waiting HW.out.law.run HS.out HG.out).mono ?_
              rintro e wh ⟨B1, kb1, B2, kb2, rfl, w1_, w2_, w3_, w4_, hb⟩
              have hw_ := HW.out.pass hb
              clear HW
              have HW := Aside0.mk hw_
              clear hw_
              have HWW := Aside0.mk (And.intro w1_ (And.intro w2_ (And.intro w3_ w4_)))
              clear hb w1_ w2_ w3_ w4_
              go_wp2_with fail
              refine (same_ints_below B1 A1d kb1 k1d S _ HSL.out HWW.out.1 HWW.out.2.1 (HC1.out _ (Own.c (HW.out.rr 0 _ rfl))) HLE1.out).mono ?_
              rintro e wi ⟨rfl, hb⟩
              have hw_ := HW.out.pass hb
              clear HW
              have HW := Aside0.mk hw_
              clear hw_
              have HW3 := Aside0.mk (Kd.C_below HWW.out.2.2.1 hb)
              clear hb
              go_wp2_with fail
              refine (same_ints_below B2 A3d kb2 k3d G _ HGL.out HW3.out HWW.out.2.2.2 (HC3.out _ (Own.c (HW.out.rr 2 _ rfl))) HLE3.out).mono ?_
              rintro e wj ⟨rfl, hb⟩
              have hw_ := HW.out.pass hb
              clear HW
              have HW := Aside0.mk hw_
              clear hw_
              have d0 : wj.cell? ⟨w2.heap.size, 0, none⟩ = some (.int .i64 pw) := (blk_cell HW.out.law.pb 0).trans rfl
              have d1 : wj.cell? ⟨w2.heap.size, 1, none⟩ = some (.int .i64 pj) := (blk_cell HW.out.law.pb 1).trans rfl
              have d2 : wj.cell? ⟨w2.heap.size, 2, none⟩ = some (.int .i64 pr) := (blk_cell HW.out.law.pb 2).trans rfl
              clear hb hcut1 hcut3
              go_wp2_with fail
              refine (lawbound_calls pw pj pr A c xs _ HPO.out HLN.out HJS.out (Kd.R_reads' HW.out.law.js).2.2 (Kd.R_reads' HW.out.law.js).2.1 m2 HW.out.law.eq.1 (by rw [HW.out.law.run.inv.ok.nw, HW.out.law.eq.2])).mono ?_
              rintro e wk ⟨rfl, hb⟩
              have hw_ := HW.out.pass hb
              clear HW
              have HW := Aside0.mk hw_
              clear hw_
              clear hb d0 d1 d2
              have r1 : decide (boundOf m2 < (k : Int) + 1) = false := decide_eq_false (by have := HBD.out; omega)
              have r1_ := eq_false (show ¬ boundOf m2 < (k : Int) + 1 by have := HBD.out; omega)
              go_wp2_with fail
              go_roundw
              case rel => exact ⟨k + 1, m2, A1, k1, q1, A2, k2, q2, A3, k3, q3, A4, k4, q4, _, rfl, rfl, rfl, rfl, by go_num, by first | rw [HST2.out.1, HCB.out] | rw [HST2.out.1], HW.out, HP3.out, HST2.out.2.1, HST2.out.2.2, HJ2.out.1, HJ2.out.2⟩
              case measure => have := HKB.out; simp [intOf]; omega
          · as_aux_lemma =>
              have hP3 := HP2.out
              have hll : lifeL l ⟨6, z1, z2, z3⟩ = l.set z2.toNat ⟨3, y1, y2⟩ := by simp [lifeL, HLY.out]
              rw [hll] at hP3
              have HP3_ := Aside0.mk hP3
              clear HP2 hP3 hll
              have e0 : wf.cell? ⟨b16, 0, none⟩ = some (.int .i64 6) := (blk_cell HE.out 0).trans rfl
              have e1 : wf.cell? ⟨b16, 1, none⟩ = some (.int .i64 z1) := (blk_cell HE.out 1).trans rfl
              have e2 : wf.cell? ⟨b16, 2, none⟩ = some (.int .i64 z2) := (blk_cell HE.out 2).trans rfl
              have e3 : wf.cell? ⟨b16, 3, none⟩ = some (.int .i64 z3) := (blk_cell HE.out 3).trans rfl
              go_wp2_with fail
              clear e0 e1 e2 e3
              have hb := below_drew (Below.refl wf.heap.size wf)
              have hw_ := HW.out.pass hb
              have he_ := (hb.block _ (blk_lt HE.out)).trans HE.out
              have hy_ := Aside0.mk (And.intro (pw_cell_below hb HY.out.1) (And.intro (pw_cell_below hb HY.out.2.1) (pw_cell_below hb HY.out.2.2)))
              clear HW HE HY
              have HW := Aside0.mk hw_
              have HE := Aside0.mk he_
              have HY := hy_
              clear hw_ he_ hy_ hb
              have fz := own48_free HW.out.rl z2 HJB.out.1 HJB.out.2
              have f0_ : wf.drew.frozen? ⟨bl, z2.toNat * 3, none⟩ = false := fz 0
              have f1_ := fz 1
              have f2_ := fz 2
              clear fz f0_ f1_ f2_
              refine start_ (n := 12) (S := fun w' => w'.heap[b16]? = some (.cells #[.int .i64 6, .int .i64 z1, .int .i64 z2, .int .i64 z3] 42 (0, 0)) ∧ w'.cell? ⟨bl, z2.toNat * 3, none⟩ = some (.int .i64 y0) ∧ w'.cell? ⟨bl, z2.toNat * 3 + 1, none⟩ = some (.int .i64 y1) ∧ w'.cell? ⟨bl, z2.toNat * 3 + 2, none⟩ = some (.int .i64 y2)) (ds := [11]) #[false, false, false, false, false, false, false, false, false, false, false, false] (by kernel_rfl) rfl rfl ⟨HE.out, HY.out.1, HY.out.2.1, HY.out.2.2⟩ (fun hHeld => ?_)
              generalize wf.drew = wd_ at HW HE HY hHeld ⊢
              refine pure_ (i := 0) (N := (some 83)) (v := ?_) (a' := ?_) #[true, false, false, false, false, false, false, false, false, false, false, false] rfl rfl (by kernel_rfl) (fun _ _ _ h => h) (Or.inl ⟨by rfl, ?_⟩) ?_ ?_
              rotate_left
              · intro w'
                go_simp
                with_reducible rfl
              rotate_left
              · simp only [Act.put, List.setIfInBounds_toArray, List.set_cons_zero, List.set_cons_succ, i64_w, i32_w]
                rfl
              refine pure_ (i := 1) (N := (some 84)) (v := ?_) (a' := ?_) #[true, true, false, false, false, false, false, false, false, false, false, false] rfl rfl (by kernel_rfl) (fun _ _ _ h => h) (Or.inl ⟨by rfl, ?_⟩) ?_ ?_
              rotate_left
              · intro w'
                go_simp
                with_reducible rfl
              rotate_left
              · simp only [Act.put, List.setIfInBounds_toArray, List.set_cons_zero, List.set_cons_succ, i64_w, i32_w]
                rfl
              refine pure_ (i := 3) (N := (some 86)) (v := ?_) (a' := ?_) #[true, true, false, true, false, false, false, false, false, false, false, false] rfl rfl (by kernel_rfl) (fun _ _ _ h => h) (Or.inl ⟨by rfl, ?_⟩) ?_ ?_
              rotate_left
              · intro w'
                go_simp
                with_reducible rfl
              rotate_left
              · simp only [Act.put, List.setIfInBounds_toArray, List.set_cons_zero, List.set_cons_succ, i64_w, i32_w]
                rfl
              refine pure_ (i := 4) (N := (some 87)) (v := ?_) (a' := ?_) #[true, true, false, true, true, false, false, false, false, false, false, false] rfl rfl (by kernel_rfl) (fun _ _ _ h => h) (Or.inl ⟨by rfl, ?_⟩) ?_ ?_
              rotate_left
              · intro w'
                go_simp
                with_reducible rfl
              rotate_left
              · simp only [Act.put, List.setIfInBounds_toArray, List.set_cons_zero, List.set_cons_succ, i64_w, i32_w]
                rfl
              refine take_ (i := 2) (N := (some 85)) (v := ?_) (a' := ?_) #[true, true, true, true, true, false, false, false, false, false, false, false] rfl rfl (by kernel_rfl) (fun _ _ _ h => h) (Or.inl ⟨by rfl, ?_⟩) hHeld ?_ ?_
              rotate_left
              · rintro w' ⟨s0, s1, s2, s3⟩
                have t0 : w'.cell? ⟨b16, 0, none⟩ = some (.int .i64 6) := (blk_cell s0 0).trans rfl
                have t1 : w'.cell? ⟨b16, 1, none⟩ = some (.int .i64 z1) := (blk_cell s0 1).trans rfl
                have t2 : w'.cell? ⟨b16, 2, none⟩ = some (.int .i64 z2) := (blk_cell s0 2).trans rfl
                have t3 : w'.cell? ⟨b16, 3, none⟩ = some (.int .i64 z3) := (blk_cell s0 3).trans rfl
                have t5_ := s1
                have t6_ := s2
                have t7_ := s3
                go_simp
                with_reducible rfl
              rotate_left
              · simp only [Act.put, List.setIfInBounds_toArray, List.set_cons_zero, List.set_cons_succ, i64_w, i32_w]
                rfl
              refine take_ (i := 5) (N := (some 88)) (v := ?_) (a' := ?_) #[true, true, true, true, true, true, false, false, false, false, false, false] rfl rfl (by kernel_rfl) (fun _ _ _ h => h) (Or.inl ⟨by rfl, ?_⟩) hHeld ?_ ?_
              rotate_left
              · rintro w' ⟨s0, s1, s2, s3⟩
                have t0 : w'.cell? ⟨b16, 0, none⟩ = some (.int .i64 6) := (blk_cell s0 0).trans rfl
                have t1 : w'.cell? ⟨b16, 1, none⟩ = some (.int .i64 z1) := (blk_cell s0 1).trans rfl
                have t2 : w'.cell? ⟨b16, 2, none⟩ = some (.int .i64 z2) := (blk_cell s0 2).trans rfl
                have t3 : w'.cell? ⟨b16, 3, none⟩ = some (.int .i64 z3) := (blk_cell s0 3).trans rfl
                have t5_ := s1
                have t6_ := s2
                have t7_ := s3
                go_simp
                with_reducible rfl
              rotate_left
              · simp only [Act.put, List.setIfInBounds_toArray, List.set_cons_zero, List.set_cons_succ, i64_w, i32_w]
                rfl
              refine pure_ (i := 6) (N := (some 89)) (v := ?_) (a' := ?_) #[true, true, true, true, true, true, true, false, false, false, false, false] rfl rfl (by kernel_rfl) (fun _ _ _ h => h) (Or.inl ⟨by rfl, ?_⟩) ?_ ?_
              rotate_left
              · intro w'
                go_simp
                with_reducible rfl
              rotate_left
              · simp only [Act.put, List.setIfInBounds_toArray, List.set_cons_zero, List.set_cons_succ, i64_w, i32_w]
                rfl
              refine take_ (i := 7) (N := (some 90)) (v := ?_) (a' := ?_) #[true, true, true, true, true, true, true, true, false, false, false, false] rfl rfl (by kernel_rfl) (fun _ _ _ h => h) (Or.inl ⟨by rfl, ?_⟩) hHeld ?_ ?_
              rotate_left
              · rintro w' ⟨s0, s1, s2, s3⟩
                have t0 : w'.cell? ⟨b16, 0, none⟩ = some (.int .i64 6) := (blk_cell s0 0).trans rfl
                have t1 : w'.cell? ⟨b16, 1, none⟩ = some (.int .i64 z1) := (blk_cell s0 1).trans rfl
                have t2 : w'.cell? ⟨b16, 2, none⟩ = some (.int .i64 z2) := (blk_cell s0 2).trans rfl
                have t3 : w'.cell? ⟨b16, 3, none⟩ = some (.int .i64 z3) := (blk_cell s0 3).trans rfl
                have t5_ := s1
                have t6_ := s2
                have t7_ := s3
                go_simp
                with_reducible rfl
              rotate_left
              · simp only [Act.put, List.setIfInBounds_toArray, List.set_cons_zero, List.set_cons_succ, i64_w, i32_w]
                rfl
              refine take_ (i := 8) (N := (some 91)) (v := ?_) (a' := ?_) #[true, true, true, true, true, true, true, true, true, false, false, false] rfl rfl (by kernel_rfl) (fun _ _ _ h => h) (Or.inl ⟨by rfl, ?_⟩) hHeld ?_ ?_
              rotate_left
              · rintro w' ⟨s0, s1, s2, s3⟩
                have t0 : w'.cell? ⟨b16, 0, none⟩ = some (.int .i64 6) := (blk_cell s0 0).trans rfl
                have t1 : w'.cell? ⟨b16, 1, none⟩ = some (.int .i64 z1) := (blk_cell s0 1).trans rfl
                have t2 : w'.cell? ⟨b16, 2, none⟩ = some (.int .i64 z2) := (blk_cell s0 2).trans rfl
                have t3 : w'.cell? ⟨b16, 3, none⟩ = some (.int .i64 z3) := (blk_cell s0 3).trans rfl
                have t5_ := s1
                have t6_ := s2
                have t7_ := s3
                go_simp
                with_reducible rfl
              rotate_left
              · simp only [Act.put, List.setIfInBounds_toArray, List.set_cons_zero, List.set_cons_succ, i64_w, i32_w]
                rfl
              refine one_ (i := 9) (N := (some 92)) #[true, true, true, true, true, true, true, true, true, true, false, false] rfl rfl (by kernel_rfl) (by decide) (fun K hK => ?_)
              refine goes_ Try.func22 (by kernel_rfl) rfl #[.agg #[.int .i64 y0, .int .i64 y1, .int .i64 y2], .agg #[.int .i64 6, .int .i64 z1, .int .i64 z2, .int .i64 z3]] (by rfl) rfl rfl (by simp only [List.map_toArray, List.map_cons, List.map_nil]; rfl) ?_
              refine (lives6 y0 y1 y2 z1 z2 z3 _).mono ?_
              rintro e wl ⟨rfl, hb⟩
              refine ⟨_, rfl, ?_⟩
              have hw_ := HW.out.pass hb
              have he_ := (hb.block _ (blk_lt HE.out)).trans HE.out
              have hy_ := Aside0.mk (And.intro (pw_cell_below hb HY.out.1) (And.intro (pw_cell_below hb HY.out.2.1) (pw_cell_below hb HY.out.2.2)))
              clear HW HE HY
              have HW := Aside0.mk hw_
              have HE := Aside0.mk he_
              have HY := hy_
              clear hw_ he_ hy_ hb
              refine hK.out _ _ ⟨HE.out, HY.out.1, HY.out.2.1, HY.out.2.2⟩ (fun hHeld => ?_)
              clear hK K
              refine norm_ (a' := ?_) ?_ ?_
              rotate_left
              · show Act.put _ (some 92) _ = _
                simp only [Act.put, List.setIfInBounds_toArray, List.set_cons_zero, List.set_cons_succ, i64_w, i32_w]
                rfl
              refine pure_ (i := 10) (N := (some 93)) (v := ?_) (a' := ?_) #[true, true, true, true, true, true, true, true, true, true, true, false] rfl rfl (by kernel_rfl) (fun _ _ _ h => h) (Or.inl ⟨by rfl, ?_⟩) ?_ ?_
              rotate_left
              · intro w'
                go_simp
                with_reducible rfl
              rotate_left
              · simp only [Act.put, List.setIfInBounds_toArray, List.set_cons_zero, List.set_cons_succ, i64_w, i32_w]
                rfl
              have fz := own48_free HW.out.rl z2 HJB.out.1 HJB.out.2
              have f0_ : wl.frozen? ⟨bl, z2.toNat * 3, none⟩ = false := fz 0
              have f1_ := fz 1
              have f2_ := fz 2
              have u0_ := HY.out.1
              have u1_ := HY.out.2.1
              have u2_ := HY.out.2.2
              clear fz
              refine last_ (i := 11) (N := none) #[true, true, true, true, true, true, true, true, true, true, true, true] rfl rfl (by kernel_rfl) (by decide) (fun K hK => ?_)
              refine skip_ (w1 := ?_) (by rfl) rfl ?_ ?_
              rotate_left
              · go_simp
                rfl
              refine hK.out _ _ ?_
              clear hK K
              refine done_ (by kernel_rfl) ?_
              have hpu := own48_put HW.out.rl z2 HJB.out.1 HJB.out.2 ⟨3, y1, y2⟩
              have hw_ := HW.out.put hpu.1 hpu.2
              have he_ := blk_grown (g := b16) HE.out hpu.2 (fun e => by
                obtain ⟨cc, ec⟩ := Kd.R_typed HW.out.rl bl rfl
                injection e with e
                exact blk_ne HE.out ec (by decide) e)
              clear HW HE HY f0_ f1_ f2_ u0_ u1_ u2_
              have HW := Aside0.mk hw_
              have HE := Aside0.mk he_
              clear hw_ he_ hpu hHeld
              generalize ((wl.setCell ⟨bl, z2.toNat * 3, none⟩ (.int .i64 3)).setCell ⟨bl, z2.toNat * 3 + 1, none⟩ (.int .i64 y1)).setCell ⟨bl, z2.toNat * 3 + 2, none⟩ (.int .i64 y2) = wg at HW HE ⊢
              obtain ⟨LL, hLL⟩ : ∃ L, l.set z2.toNat ⟨3, y1, y2⟩ = L := ⟨_, rfl⟩
              rw [hLL] at HW HP3_
              clear hLL
              have e0 : wg.cell? ⟨b16, 0, none⟩ = some (.int .i64 6) := (blk_cell HE.out 0).trans rfl
              have e1 : wg.cell? ⟨b16, 1, none⟩ = some (.int .i64 z1) := (blk_cell HE.out 1).trans rfl
              have e2 : wg.cell? ⟨b16, 2, none⟩ = some (.int .i64 z2) := (blk_cell HE.out 2).trans rfl
              have e3 : wg.cell? ⟨b16, 3, none⟩ = some (.int .i64 z3) := (blk_cell HE.out 3).trans rfl
              go_wp2_with (first | ((with_reducible refine gate_builtin (b := .append) (xs := #[.tmp 112, .tmp 115]) rfl ?_); at_builtin; refine Kd.R_append (Kd.int .i64) (w0 := wg) 0 rfl (.tmp 112) (.tmp 115) 24 3 (.int .i64 0) 8 rfl Try.underlying24 info3 rfl (by decide) (by decide) (.slice A3 q3.length k3) q3 z2 [.int .i64 z2] (fun _ => True) (fun _ => False) rfl rfl ?aP (fun _ hk => hk.elim) (fun _ _ => trivial) ?aO (Below.refl _ _) (Nat.zero_le _) ?aL ?_; (case aP => exact rfl); (case aO => exact (Kd.R_mono (HW.out.rr 2 (.slice A3 q3.length k3, q3) rfl) (fun _ _ => trivial))); (case aL => exact (by have := HQL.out; omega)); intro v9 wg9 hr9 hb9 hg9 hat9; obtain ⟨Q9, hQ9⟩ : ∃ Q, q3 ++ [z2] = Q := ⟨_, rfl⟩; rw [hQ9] at hr9; obtain ⟨A9, k9, hv9⟩ := Kd.R_slice hr9; subst hv9; have hw_ := HW.out.app 2 rfl hr9 hg9 hat9; clear HW; have HW := Aside0.mk (show OnceW w wg9 X w.heap.size w2.heap.size pw pj pr (.slice A xs.length c) xs g m2 (.slice (some ⟨bl, 0, none⟩) xs.length xs.length) LL [(.slice A1 q1.length k1, q1), (.slice A2 q2.length k2, q2), (.slice A9 Q9.length k9, Q9), (.slice A4 q4.length k4, q4)] from hw_); have HQ9 := Aside0.mk hQ9; clear hw_ hQ9 hr9 hb9 hg9 hat9; clear e0 e1 e2 e3))
              have HP3 : Aside0 (OnceP m2 LL q1 q2 Q9 q4) := Aside0.mk (by rw [← HQ9.out]; simpa [appK] using HP3_.out)
              have hdr := HP3.out.drop
              obtain ⟨S, hS⟩ : ∃ S, m2.sent = S := ⟨_, rfl⟩
              obtain ⟨G, hG⟩ : ∃ S, m2.given = S := ⟨_, rfl⟩
              obtain ⟨A1d, k1d, hcut1, hle1, hC1⟩ := cut_any' A1 k1 q1 S q2.length (hdr.1.trans hS) hdr.2.2.1 (Own.le (HW.out.rr 0 _ rfl))
              obtain ⟨A3d, k3d, hcut3, hle3, hC3⟩ := cut_any' A9 k9 Q9 G q4.length (hdr.2.1.trans hG) hdr.2.2.2.1 (Own.le (HW.out.rr 2 _ rfl))
              have g1 : decide (q1.length < q2.length) = false := decide_eq_false (by have := hdr.2.2.1; omega)
              have g2 : decide (Q9.length < q4.length) = false := decide_eq_false (by have := hdr.2.2.2.1; omega)
              have g1_ := eq_false (show ¬ q1.length < q2.length by have := hdr.2.2.1; omega)
              have g2_ := eq_false (show ¬ Q9.length < q4.length by have := hdr.2.2.2.1; omega)
              have hSl : (S.length : Int) ≤ pj := by have := HW.out.law.run.inv.ok.ns; rw [hS, HJ2.out.1] at this; exact this
              have hGl : (G.length : Int) ≤ pr := by have := HW.out.law.run.inv.ok.ng; rw [hG, HJ2.out.2] at this; exact this
              have s1 : decide (pj < (S.length : Int)) = false := decide_eq_false (by omega)
              have s2 : decide (pr < (G.length : Int)) = false := decide_eq_false (by omega)
              have s1_ := eq_false (show ¬ pj < (S.length : Int) by omega)
              have s2_ := eq_false (show ¬ pr < (G.length : Int) by omega)
              have HSL := Aside0.mk (show S.length ≤ 1000000 by have := HPO.out.2.1; omega)
              have HGL := Aside0.mk (show G.length ≤ 1000000 by have := HPO.out.2.2; omega)
              have HS := Aside0.mk hS
              have HG := Aside0.mk hG
              have HC1 := Aside0.mk hC1
              have HC3 := Aside0.mk hC3
              have HLE1 := Aside0.mk hle1
              have HLE3 := Aside0.mk hle3
              clear hdr hS hG hSl hGl hC1 hC3 hle1 hle3
              refine (pk_waiting HW.out.law.run HS.out HG.out).mono ?_
              rintro e wh ⟨B1, kb1, B2, kb2, rfl, w1_, w2_, w3_, w4_, hb⟩
              have hw_ := HW.out.pass hb
              clear HW
              have HW := Aside0.mk hw_
              clear hw_
              have HWW := Aside0.mk (And.intro w1_ (And.intro w2_ (And.intro w3_ w4_)))
              clear hb w1_ w2_ w3_ w4_
              go_wp2_with fail
              refine (same_ints_below B1 A1d kb1 k1d S _ HSL.out HWW.out.1 HWW.out.2.1 (HC1.out _ (Own.c (HW.out.rr 0 _ rfl))) HLE1.out).mono ?_
              rintro e wi ⟨rfl, hb⟩
              have hw_ := HW.out.pass hb
              clear HW
              have HW := Aside0.mk hw_
              clear hw_
              have HW3 := Aside0.mk (Kd.C_below HWW.out.2.2.1 hb)
              clear hb
              go_wp2_with fail
              refine (same_ints_below B2 A3d kb2 k3d G _ HGL.out HW3.out HWW.out.2.2.2 (HC3.out _ (Own.c (HW.out.rr 2 _ rfl))) HLE3.out).mono ?_
              rintro e wj ⟨rfl, hb⟩
              have hw_ := HW.out.pass hb
              clear HW
              have HW := Aside0.mk hw_
              clear hw_
              have d0 : wj.cell? ⟨w2.heap.size, 0, none⟩ = some (.int .i64 pw) := (blk_cell HW.out.law.pb 0).trans rfl
              have d1 : wj.cell? ⟨w2.heap.size, 1, none⟩ = some (.int .i64 pj) := (blk_cell HW.out.law.pb 1).trans rfl
              have d2 : wj.cell? ⟨w2.heap.size, 2, none⟩ = some (.int .i64 pr) := (blk_cell HW.out.law.pb 2).trans rfl
              clear hb hcut1 hcut3
              go_wp2_with fail
              refine (lawbound_calls pw pj pr A c xs _ HPO.out HLN.out HJS.out (Kd.R_reads' HW.out.law.js).2.2 (Kd.R_reads' HW.out.law.js).2.1 m2 HW.out.law.eq.1 (by rw [HW.out.law.run.inv.ok.nw, HW.out.law.eq.2])).mono ?_
              rintro e wk ⟨rfl, hb⟩
              have hw_ := HW.out.pass hb
              clear HW
              have HW := Aside0.mk hw_
              clear hw_
              clear hb d0 d1 d2
              have r1 : decide (boundOf m2 < (k : Int) + 1) = false := decide_eq_false (by have := HBD.out; omega)
              have r1_ := eq_false (show ¬ boundOf m2 < (k : Int) + 1 by have := HBD.out; omega)
              go_wp2_with fail
              go_roundw
              case rel => exact ⟨k + 1, m2, A1, k1, q1, A2, k2, q2, A9, k9, Q9, A4, k4, q4, _, rfl, rfl, rfl, rfl, by go_num, by first | rw [HST2.out.1, HCB.out] | rw [HST2.out.1], HW.out, HP3.out, HST2.out.2.1, HST2.out.2.2, HJ2.out.1, HJ2.out.2⟩
              case measure => have := HKB.out; simp [intOf]; omega
          · as_aux_lemma =>
              have hP3 := HP2.out
              have hll : lifeL l ⟨9, z1, z2, z3⟩ = l.set z2.toNat ⟨4, y1, y2⟩ := by simp [lifeL, HLY.out]
              rw [hll] at hP3
              have HP3_ := Aside0.mk hP3
              clear HP2 hP3 hll
              have e0 : wf.cell? ⟨b16, 0, none⟩ = some (.int .i64 9) := (blk_cell HE.out 0).trans rfl
              have e1 : wf.cell? ⟨b16, 1, none⟩ = some (.int .i64 z1) := (blk_cell HE.out 1).trans rfl
              have e2 : wf.cell? ⟨b16, 2, none⟩ = some (.int .i64 z2) := (blk_cell HE.out 2).trans rfl
              have e3 : wf.cell? ⟨b16, 3, none⟩ = some (.int .i64 z3) := (blk_cell HE.out 3).trans rfl
              go_wp2_with fail
              clear e0 e1 e2 e3
              have hb := below_drew (Below.refl wf.heap.size wf)
              have hw_ := HW.out.pass hb
              have he_ := (hb.block _ (blk_lt HE.out)).trans HE.out
              have hy_ := Aside0.mk (And.intro (pw_cell_below hb HY.out.1) (And.intro (pw_cell_below hb HY.out.2.1) (pw_cell_below hb HY.out.2.2)))
              clear HW HE HY
              have HW := Aside0.mk hw_
              have HE := Aside0.mk he_
              have HY := hy_
              clear hw_ he_ hy_ hb
              have fz := own48_free HW.out.rl z2 HJB.out.1 HJB.out.2
              have f0_ : wf.drew.frozen? ⟨bl, z2.toNat * 3, none⟩ = false := fz 0
              have f1_ := fz 1
              have f2_ := fz 2
              clear fz f0_ f1_ f2_
              refine start_ (n := 12) (S := fun w' => w'.heap[b16]? = some (.cells #[.int .i64 9, .int .i64 z1, .int .i64 z2, .int .i64 z3] 42 (0, 0)) ∧ w'.cell? ⟨bl, z2.toNat * 3, none⟩ = some (.int .i64 y0) ∧ w'.cell? ⟨bl, z2.toNat * 3 + 1, none⟩ = some (.int .i64 y1) ∧ w'.cell? ⟨bl, z2.toNat * 3 + 2, none⟩ = some (.int .i64 y2)) (ds := [11]) #[false, false, false, false, false, false, false, false, false, false, false, false] (by kernel_rfl) rfl rfl ⟨HE.out, HY.out.1, HY.out.2.1, HY.out.2.2⟩ (fun hHeld => ?_)
              generalize wf.drew = wd_ at HW HE HY hHeld ⊢
              refine pure_ (i := 0) (N := (some 83)) (v := ?_) (a' := ?_) #[true, false, false, false, false, false, false, false, false, false, false, false] rfl rfl (by kernel_rfl) (fun _ _ _ h => h) (Or.inl ⟨by rfl, ?_⟩) ?_ ?_
              rotate_left
              · intro w'
                go_simp
                with_reducible rfl
              rotate_left
              · simp only [Act.put, List.setIfInBounds_toArray, List.set_cons_zero, List.set_cons_succ, i64_w, i32_w]
                rfl
              refine pure_ (i := 1) (N := (some 84)) (v := ?_) (a' := ?_) #[true, true, false, false, false, false, false, false, false, false, false, false] rfl rfl (by kernel_rfl) (fun _ _ _ h => h) (Or.inl ⟨by rfl, ?_⟩) ?_ ?_
              rotate_left
              · intro w'
                go_simp
                with_reducible rfl
              rotate_left
              · simp only [Act.put, List.setIfInBounds_toArray, List.set_cons_zero, List.set_cons_succ, i64_w, i32_w]
                rfl
              refine pure_ (i := 3) (N := (some 86)) (v := ?_) (a' := ?_) #[true, true, false, true, false, false, false, false, false, false, false, false] rfl rfl (by kernel_rfl) (fun _ _ _ h => h) (Or.inl ⟨by rfl, ?_⟩) ?_ ?_
              rotate_left
              · intro w'
                go_simp
                with_reducible rfl
              rotate_left
              · simp only [Act.put, List.setIfInBounds_toArray, List.set_cons_zero, List.set_cons_succ, i64_w, i32_w]
                rfl
              refine pure_ (i := 4) (N := (some 87)) (v := ?_) (a' := ?_) #[true, true, false, true, true, false, false, false, false, false, false, false] rfl rfl (by kernel_rfl) (fun _ _ _ h => h) (Or.inl ⟨by rfl, ?_⟩) ?_ ?_
              rotate_left
              · intro w'
                go_simp
                with_reducible rfl
              rotate_left
              · simp only [Act.put, List.setIfInBounds_toArray, List.set_cons_zero, List.set_cons_succ, i64_w, i32_w]
                rfl
              refine take_ (i := 2) (N := (some 85)) (v := ?_) (a' := ?_) #[true, true, true, true, true, false, false, false, false, false, false, false] rfl rfl (by kernel_rfl) (fun _ _ _ h => h) (Or.inl ⟨by rfl, ?_⟩) hHeld ?_ ?_
              rotate_left
              · rintro w' ⟨s0, s1, s2, s3⟩
                have t0 : w'.cell? ⟨b16, 0, none⟩ = some (.int .i64 9) := (blk_cell s0 0).trans rfl
                have t1 : w'.cell? ⟨b16, 1, none⟩ = some (.int .i64 z1) := (blk_cell s0 1).trans rfl
                have t2 : w'.cell? ⟨b16, 2, none⟩ = some (.int .i64 z2) := (blk_cell s0 2).trans rfl
                have t3 : w'.cell? ⟨b16, 3, none⟩ = some (.int .i64 z3) := (blk_cell s0 3).trans rfl
                have t5_ := s1
                have t6_ := s2
                have t7_ := s3
                go_simp
                with_reducible rfl
              rotate_left
              · simp only [Act.put, List.setIfInBounds_toArray, List.set_cons_zero, List.set_cons_succ, i64_w, i32_w]
                rfl
              refine take_ (i := 5) (N := (some 88)) (v := ?_) (a' := ?_) #[true, true, true, true, true, true, false, false, false, false, false, false] rfl rfl (by kernel_rfl) (fun _ _ _ h => h) (Or.inl ⟨by rfl, ?_⟩) hHeld ?_ ?_
              rotate_left
              · rintro w' ⟨s0, s1, s2, s3⟩
                have t0 : w'.cell? ⟨b16, 0, none⟩ = some (.int .i64 9) := (blk_cell s0 0).trans rfl
                have t1 : w'.cell? ⟨b16, 1, none⟩ = some (.int .i64 z1) := (blk_cell s0 1).trans rfl
                have t2 : w'.cell? ⟨b16, 2, none⟩ = some (.int .i64 z2) := (blk_cell s0 2).trans rfl
                have t3 : w'.cell? ⟨b16, 3, none⟩ = some (.int .i64 z3) := (blk_cell s0 3).trans rfl
                have t5_ := s1
                have t6_ := s2
                have t7_ := s3
                go_simp
                with_reducible rfl
              rotate_left
              · simp only [Act.put, List.setIfInBounds_toArray, List.set_cons_zero, List.set_cons_succ, i64_w, i32_w]
                rfl
              refine pure_ (i := 6) (N := (some 89)) (v := ?_) (a' := ?_) #[true, true, true, true, true, true, true, false, false, false, false, false] rfl rfl (by kernel_rfl) (fun _ _ _ h => h) (Or.inl ⟨by rfl, ?_⟩) ?_ ?_
              rotate_left
              · intro w'
                go_simp
                with_reducible rfl
              rotate_left
              · simp only [Act.put, List.setIfInBounds_toArray, List.set_cons_zero, List.set_cons_succ, i64_w, i32_w]
                rfl
              refine take_ (i := 7) (N := (some 90)) (v := ?_) (a' := ?_) #[true, true, true, true, true, true, true, true, false, false, false, false] rfl rfl (by kernel_rfl) (fun _ _ _ h => h) (Or.inl ⟨by rfl, ?_⟩) hHeld ?_ ?_
              rotate_left
              · rintro w' ⟨s0, s1, s2, s3⟩
                have t0 : w'.cell? ⟨b16, 0, none⟩ = some (.int .i64 9) := (blk_cell s0 0).trans rfl
                have t1 : w'.cell? ⟨b16, 1, none⟩ = some (.int .i64 z1) := (blk_cell s0 1).trans rfl
                have t2 : w'.cell? ⟨b16, 2, none⟩ = some (.int .i64 z2) := (blk_cell s0 2).trans rfl
                have t3 : w'.cell? ⟨b16, 3, none⟩ = some (.int .i64 z3) := (blk_cell s0 3).trans rfl
                have t5_ := s1
                have t6_ := s2
                have t7_ := s3
                go_simp
                with_reducible rfl
              rotate_left
              · simp only [Act.put, List.setIfInBounds_toArray, List.set_cons_zero, List.set_cons_succ, i64_w, i32_w]
                rfl
              refine take_ (i := 8) (N := (some 91)) (v := ?_) (a' := ?_) #[true, true, true, true, true, true, true, true, true, false, false, false] rfl rfl (by kernel_rfl) (fun _ _ _ h => h) (Or.inl ⟨by rfl, ?_⟩) hHeld ?_ ?_
              rotate_left
              · rintro w' ⟨s0, s1, s2, s3⟩
                have t0 : w'.cell? ⟨b16, 0, none⟩ = some (.int .i64 9) := (blk_cell s0 0).trans rfl
                have t1 : w'.cell? ⟨b16, 1, none⟩ = some (.int .i64 z1) := (blk_cell s0 1).trans rfl
                have t2 : w'.cell? ⟨b16, 2, none⟩ = some (.int .i64 z2) := (blk_cell s0 2).trans rfl
                have t3 : w'.cell? ⟨b16, 3, none⟩ = some (.int .i64 z3) := (blk_cell s0 3).trans rfl
                have t5_ := s1
                have t6_ := s2
                have t7_ := s3
                go_simp
                with_reducible rfl
              rotate_left
              · simp only [Act.put, List.setIfInBounds_toArray, List.set_cons_zero, List.set_cons_succ, i64_w, i32_w]
                rfl
              refine one_ (i := 9) (N := (some 92)) #[true, true, true, true, true, true, true, true, true, true, false, false] rfl rfl (by kernel_rfl) (by decide) (fun K hK => ?_)
              refine goes_ Try.func22 (by kernel_rfl) rfl #[.agg #[.int .i64 y0, .int .i64 y1, .int .i64 y2], .agg #[.int .i64 9, .int .i64 z1, .int .i64 z2, .int .i64 z3]] (by rfl) rfl rfl (by simp only [List.map_toArray, List.map_cons, List.map_nil]; rfl) ?_
              refine (lives9 y0 y1 y2 z1 z2 z3 _).mono ?_
              rintro e wl ⟨rfl, hb⟩
              refine ⟨_, rfl, ?_⟩
              have hw_ := HW.out.pass hb
              have he_ := (hb.block _ (blk_lt HE.out)).trans HE.out
              have hy_ := Aside0.mk (And.intro (pw_cell_below hb HY.out.1) (And.intro (pw_cell_below hb HY.out.2.1) (pw_cell_below hb HY.out.2.2)))
              clear HW HE HY
              have HW := Aside0.mk hw_
              have HE := Aside0.mk he_
              have HY := hy_
              clear hw_ he_ hy_ hb
              refine hK.out _ _ ⟨HE.out, HY.out.1, HY.out.2.1, HY.out.2.2⟩ (fun hHeld => ?_)
              clear hK K
              refine norm_ (a' := ?_) ?_ ?_
              rotate_left
              · show Act.put _ (some 92) _ = _
                simp only [Act.put, List.setIfInBounds_toArray, List.set_cons_zero, List.set_cons_succ, i64_w, i32_w]
                rfl
              refine pure_ (i := 10) (N := (some 93)) (v := ?_) (a' := ?_) #[true, true, true, true, true, true, true, true, true, true, true, false] rfl rfl (by kernel_rfl) (fun _ _ _ h => h) (Or.inl ⟨by rfl, ?_⟩) ?_ ?_
              rotate_left
              · intro w'
                go_simp
                with_reducible rfl
              rotate_left
              · simp only [Act.put, List.setIfInBounds_toArray, List.set_cons_zero, List.set_cons_succ, i64_w, i32_w]
                rfl
              have fz := own48_free HW.out.rl z2 HJB.out.1 HJB.out.2
              have f0_ : wl.frozen? ⟨bl, z2.toNat * 3, none⟩ = false := fz 0
              have f1_ := fz 1
              have f2_ := fz 2
              have u0_ := HY.out.1
              have u1_ := HY.out.2.1
              have u2_ := HY.out.2.2
              clear fz
              refine last_ (i := 11) (N := none) #[true, true, true, true, true, true, true, true, true, true, true, true] rfl rfl (by kernel_rfl) (by decide) (fun K hK => ?_)
              refine skip_ (w1 := ?_) (by rfl) rfl ?_ ?_
              rotate_left
              · go_simp
                rfl
              refine hK.out _ _ ?_
              clear hK K
              refine done_ (by kernel_rfl) ?_
              have hpu := own48_put HW.out.rl z2 HJB.out.1 HJB.out.2 ⟨4, y1, y2⟩
              have hw_ := HW.out.put hpu.1 hpu.2
              have he_ := blk_grown (g := b16) HE.out hpu.2 (fun e => by
                obtain ⟨cc, ec⟩ := Kd.R_typed HW.out.rl bl rfl
                injection e with e
                exact blk_ne HE.out ec (by decide) e)
              clear HW HE HY f0_ f1_ f2_ u0_ u1_ u2_
              have HW := Aside0.mk hw_
              have HE := Aside0.mk he_
              clear hw_ he_ hpu hHeld
              generalize ((wl.setCell ⟨bl, z2.toNat * 3, none⟩ (.int .i64 4)).setCell ⟨bl, z2.toNat * 3 + 1, none⟩ (.int .i64 y1)).setCell ⟨bl, z2.toNat * 3 + 2, none⟩ (.int .i64 y2) = wg at HW HE ⊢
              obtain ⟨LL, hLL⟩ : ∃ L, l.set z2.toNat ⟨4, y1, y2⟩ = L := ⟨_, rfl⟩
              rw [hLL] at HW HP3_
              clear hLL
              have e0 : wg.cell? ⟨b16, 0, none⟩ = some (.int .i64 9) := (blk_cell HE.out 0).trans rfl
              have e1 : wg.cell? ⟨b16, 1, none⟩ = some (.int .i64 z1) := (blk_cell HE.out 1).trans rfl
              have e2 : wg.cell? ⟨b16, 2, none⟩ = some (.int .i64 z2) := (blk_cell HE.out 2).trans rfl
              have e3 : wg.cell? ⟨b16, 3, none⟩ = some (.int .i64 z3) := (blk_cell HE.out 3).trans rfl
              go_wp2_with (first | ((with_reducible refine gate_builtin (b := .append) (xs := #[.tmp 119, .tmp 122]) rfl ?_); at_builtin; refine Kd.R_append (Kd.int .i64) (w0 := wg) 0 rfl (.tmp 119) (.tmp 122) 24 3 (.int .i64 0) 8 rfl Try.underlying24 info3 rfl (by decide) (by decide) (.slice A4 q4.length k4) q4 z2 [.int .i64 z2] (fun _ => True) (fun _ => False) rfl rfl ?aP (fun _ hk => hk.elim) (fun _ _ => trivial) ?aO (Below.refl _ _) (Nat.zero_le _) ?aL ?_; (case aP => exact rfl); (case aO => exact (Kd.R_mono (HW.out.rr 3 (.slice A4 q4.length k4, q4) rfl) (fun _ _ => trivial))); (case aL => exact (by have := HQL.out; omega)); intro v9 wg9 hr9 hb9 hg9 hat9; obtain ⟨Q9, hQ9⟩ : ∃ Q, q4 ++ [z2] = Q := ⟨_, rfl⟩; rw [hQ9] at hr9; obtain ⟨A9, k9, hv9⟩ := Kd.R_slice hr9; subst hv9; have hw_ := HW.out.app 3 rfl hr9 hg9 hat9; clear HW; have HW := Aside0.mk (show OnceW w wg9 X w.heap.size w2.heap.size pw pj pr (.slice A xs.length c) xs g m2 (.slice (some ⟨bl, 0, none⟩) xs.length xs.length) LL [(.slice A1 q1.length k1, q1), (.slice A2 q2.length k2, q2), (.slice A3 q3.length k3, q3), (.slice A9 Q9.length k9, Q9)] from hw_); have HQ9 := Aside0.mk hQ9; clear hw_ hQ9 hr9 hb9 hg9 hat9; clear e0 e1 e2 e3))
              have HP3 : Aside0 (OnceP m2 LL q1 q2 q3 Q9) := Aside0.mk (by rw [← HQ9.out]; simpa [appK] using HP3_.out)
              have hdr := HP3.out.drop
              obtain ⟨S, hS⟩ : ∃ S, m2.sent = S := ⟨_, rfl⟩
              obtain ⟨G, hG⟩ : ∃ S, m2.given = S := ⟨_, rfl⟩
              obtain ⟨A1d, k1d, hcut1, hle1, hC1⟩ := cut_any' A1 k1 q1 S q2.length (hdr.1.trans hS) hdr.2.2.1 (Own.le (HW.out.rr 0 _ rfl))
              obtain ⟨A3d, k3d, hcut3, hle3, hC3⟩ := cut_any' A3 k3 q3 G Q9.length (hdr.2.1.trans hG) hdr.2.2.2.1 (Own.le (HW.out.rr 2 _ rfl))
              have g1 : decide (q1.length < q2.length) = false := decide_eq_false (by have := hdr.2.2.1; omega)
              have g2 : decide (q3.length < Q9.length) = false := decide_eq_false (by have := hdr.2.2.2.1; omega)
              have g1_ := eq_false (show ¬ q1.length < q2.length by have := hdr.2.2.1; omega)
              have g2_ := eq_false (show ¬ q3.length < Q9.length by have := hdr.2.2.2.1; omega)
              have hSl : (S.length : Int) ≤ pj := by have := HW.out.law.run.inv.ok.ns; rw [hS, HJ2.out.1] at this; exact this
              have hGl : (G.length : Int) ≤ pr := by have := HW.out.law.run.inv.ok.ng; rw [hG, HJ2.out.2] at this; exact this
              have s1 : decide (pj < (S.length : Int)) = false := decide_eq_false (by omega)
              have s2 : decide (pr < (G.length : Int)) = false := decide_eq_false (by omega)
              have s1_ := eq_false (show ¬ pj < (S.length : Int) by omega)
              have s2_ := eq_false (show ¬ pr < (G.length : Int) by omega)
              have HSL := Aside0.mk (show S.length ≤ 1000000 by have := HPO.out.2.1; omega)
              have HGL := Aside0.mk (show G.length ≤ 1000000 by have := HPO.out.2.2; omega)
              have HS := Aside0.mk hS
              have HG := Aside0.mk hG
              have HC1 := Aside0.mk hC1
              have HC3 := Aside0.mk hC3
              have HLE1 := Aside0.mk hle1
              have HLE3 := Aside0.mk hle3
              clear hdr hS hG hSl hGl hC1 hC3 hle1 hle3
              refine (pk_waiting HW.out.law.run HS.out HG.out).mono ?_
              rintro e wh ⟨B1, kb1, B2, kb2, rfl, w1_, w2_, w3_, w4_, hb⟩
              have hw_ := HW.out.pass hb
              clear HW
              have HW := Aside0.mk hw_
              clear hw_
              have HWW := Aside0.mk (And.intro w1_ (And.intro w2_ (And.intro w3_ w4_)))
              clear hb w1_ w2_ w3_ w4_
              go_wp2_with fail
              refine (same_ints_below B1 A1d kb1 k1d S _ HSL.out HWW.out.1 HWW.out.2.1 (HC1.out _ (Own.c (HW.out.rr 0 _ rfl))) HLE1.out).mono ?_
              rintro e wi ⟨rfl, hb⟩
              have hw_ := HW.out.pass hb
              clear HW
              have HW := Aside0.mk hw_
              clear hw_
              have HW3 := Aside0.mk (Kd.C_below HWW.out.2.2.1 hb)
              clear hb
              go_wp2_with fail
              refine (same_ints_below B2 A3d kb2 k3d G _ HGL.out HW3.out HWW.out.2.2.2 (HC3.out _ (Own.c (HW.out.rr 2 _ rfl))) HLE3.out).mono ?_
              rintro e wj ⟨rfl, hb⟩
              have hw_ := HW.out.pass hb
              clear HW
              have HW := Aside0.mk hw_
              clear hw_
              have d0 : wj.cell? ⟨w2.heap.size, 0, none⟩ = some (.int .i64 pw) := (blk_cell HW.out.law.pb 0).trans rfl
              have d1 : wj.cell? ⟨w2.heap.size, 1, none⟩ = some (.int .i64 pj) := (blk_cell HW.out.law.pb 1).trans rfl
              have d2 : wj.cell? ⟨w2.heap.size, 2, none⟩ = some (.int .i64 pr) := (blk_cell HW.out.law.pb 2).trans rfl
              clear hb hcut1 hcut3
              go_wp2_with fail
              refine (lawbound_calls pw pj pr A c xs _ HPO.out HLN.out HJS.out (Kd.R_reads' HW.out.law.js).2.2 (Kd.R_reads' HW.out.law.js).2.1 m2 HW.out.law.eq.1 (by rw [HW.out.law.run.inv.ok.nw, HW.out.law.eq.2])).mono ?_
              rintro e wk ⟨rfl, hb⟩
              have hw_ := HW.out.pass hb
              clear HW
              have HW := Aside0.mk hw_
              clear hw_
              clear hb d0 d1 d2
              have r1 : decide (boundOf m2 < (k : Int) + 1) = false := decide_eq_false (by have := HBD.out; omega)
              have r1_ := eq_false (show ¬ boundOf m2 < (k : Int) + 1 by have := HBD.out; omega)
              go_wp2_with fail
              go_roundw
              case rel => exact ⟨k + 1, m2, A1, k1, q1, A2, k2, q2, A3, k3, q3, A9, k9, Q9, _, rfl, rfl, rfl, rfl, by go_num, by first | rw [HST2.out.1, HCB.out] | rw [HST2.out.1], HW.out, HP3.out, HST2.out.2.1, HST2.out.2.2, HJ2.out.1, HJ2.out.2⟩
              case measure => have := HKB.out; simp [intOf]; omega
    · skip
      as_aux_lemma =>
        have HD := Aside0.mk hd
        have hlen := once_len hW.law.run.inv.ok hP
        rw [hW.law.eq.1] at hlen
        have hdr := hP.drop
        have HGT := Aside0.mk hP.got.symm
        have HQB := Aside0.mk (show q2.length ≤ 1000000 ∧ q4.length ≤ 1000000 by have := HLN.out; omega)
        have HQ1 := Aside0.mk (show q1.length ≤ 60 by have := HLN.out; omega)
        have HSE := Aside0.mk hP.sent
        have HDR := Aside0.mk hdr
        have HOU := Aside0.mk (show (m.outcome = 1 ∧ q4.length = xs.length) ∨ (m.outcome = 2 ∧ m.stopped = true) by
          have hcl := (done_facts hW.law.run.inv.ok hd).2.1
          rcases hW.law.run.inv.out with ⟨h, _⟩ | ⟨_, h | h⟩
          · rw [hcl] at h; simp at h
          · exact .inl ⟨h.1, by rw [hP.got, h.2, hW.law.eq.1]⟩
          · exact .inr h)
        clear hW hP hk hst hpj hpr hd hlen hdr
        go_wp2_with fail
        refine (pk_done HW.out.law.run HD.out).mono ?_
        rintro e wa ⟨rfl, hb⟩
        have hw_ := HW.out.pass hb
        clear HW
        have HW := Aside0.mk hw_
        clear hw_
        clear hb
        go_wp2_with fail
        go_loopw [20] (fun i wr2 => ∃ j : Nat, i = .int .i64 j ∧ j ≤ q1.length ∧ OnceW w wr2 X w.heap.size w2.heap.size pw pj pr (.slice A xs.length c) xs g m (.slice (some ⟨bl, 0, none⟩) xs.length xs.length) l [(.slice A1 q1.length k1, q1), (.slice A2 q2.length k2, q2), (.slice A3 q3.length k3, q3), (.slice A4 q4.length k4, q4)]) (fun i _ => q1.length - (intOf i).toNat)
        case atStart => exact ⟨0, rfl, Nat.zero_le _, HW.out⟩
        case round =>
          obtain ⟨j, rfl, hj, hW⟩ := hrel
          clear HW
          have HW := Aside0.mk hW
          clear hW
          by_cases hlt : j < q1.length
          · have HJ := Aside0.mk hlt
            obtain ⟨ad, ead, hy⟩ := Kd.at_int (Own.c (HW.out.rr 0 _ rfl)) j (Int.natCast_nonneg _) (by show (j : Int) < (q1.length : Int); omega)
            subst ead
            rw [Int.toNat_natCast] at hy
            have hrd : rd q1 j = j := by rw [HSE.out]; exact upTo_rd (by have := hlt; rw [HSE.out, upTo_len] at this; exact this)
            rw [hrd] at hy
            have p0 : decide ((j : Int) < (q1.length : Int)) = true := decide_eq_true (by omega)
            have p1 := eq_true (show (j : Int) < (q1.length : Int) by omega)
            have p2 : decide (j < q1.length) = true := decide_eq_true hlt
            have hj60 : (j : Int) ≤ 60 := by have := HQ1.out; omega
            have hj0 : (0 : Int) ≤ (j : Int) := Int.natCast_nonneg _
            clear hrd hj hlt
            go_wp2
            go_roundw
            case rel => exact ⟨j + 1, by go_num, HJ.out, HW.out⟩
            case measure => have := HJ.out; simp [intOf]; omega
          · have p0 : decide ((j : Int) < (q1.length : Int)) = false := decide_eq_false (by omega)
            have p1 := eq_false (show ¬ (j : Int) < (q1.length : Int) by omega)
            have p2 : decide (j < q1.length) = false := decide_eq_false hlt
            obtain ⟨hcutA, hla, hca⟩ := cut_head' A1 k1 q1 q2 HDR.out.2.2.2.2.1 HDR.out.2.2.1 (Own.le (HW.out.rr 0 _ rfl))
            obtain ⟨hcutB, hlb, hcb⟩ := cut_head' A3 k3 q3 q4 HDR.out.2.2.2.2.2 HDR.out.2.2.2.1 (Own.le (HW.out.rr 2 _ rfl))
            have HLA := Aside0.mk hla
            have HCA := Aside0.mk hca
            have HLB := Aside0.mk hlb
            have HCB := Aside0.mk hcb
            clear hla hca hlb hcb hj hlt
            rcases HOU.out with ⟨hu, hq⟩ | ⟨hu, hs⟩
            · have HU := Aside0.mk hu
              have HQQ := Aside0.mk hq
              clear hu hq
              go_wp2_with fail
              refine (same_ints_below A2 A1 k2 k1 q2 _ HQB.out.1 (Own.c (HW.out.rr 1 _ rfl)) (Own.le (HW.out.rr 1 _ rfl)) (HCA.out _ (Own.c (HW.out.rr 0 _ rfl))) HLA.out).mono ?_
              rintro e wm ⟨rfl, hb⟩
              have hw_ := HW.out.pass hb
              clear HW
              have HW := Aside0.mk hw_
              clear hw_
              clear hb
              go_wp2_with fail
              refine (same_ints_below A4 A3 k4 k3 q4 _ HQB.out.2 (Own.c (HW.out.rr 3 _ rfl)) (Own.le (HW.out.rr 3 _ rfl)) (HCB.out _ (Own.c (HW.out.rr 2 _ rfl))) HLB.out).mono ?_
              rintro e wn ⟨rfl, hb⟩
              have hw_ := HW.out.pass hb
              clear HW
              have HW := Aside0.mk hw_
              clear hw_
              clear hb
              go_wp2_with fail
              refine (pk_got HW.out.law.run HGT.out).mono ?_
              rintro e wo ⟨A5, k5, rfl, w1_, w2_, hb⟩
              have hw_ := HW.out.pass hb
              clear HW
              have HW := Aside0.mk hw_
              clear hw_
              clear hb
              go_wp2_with fail
              refine (same_ints_below A4 A5 k4 k5 q4 _ HQB.out.2 (Own.c (HW.out.rr 3 _ rfl)) (Own.le (HW.out.rr 3 _ rfl)) w1_ w2_).mono ?_
              rintro e wp ⟨rfl, hb⟩
              have hw_ := HW.out.pass hb
              clear HW
              have HW := Aside0.mk hw_
              clear hw_
              clear hb w1_ w2_ hcutA hcutB
              go_wp2_with fail
              refine (pk_outcome HW.out.law.run HU.out).mono ?_
              rintro e wq ⟨rfl, hwq⟩
              subst hwq
              have hq := HQQ.out
              cases hs : m.stopped
              · skip
                go_wp2_with fail
                refine (pk_outcome HW.out.law.run HU.out).mono ?_
                rintro e wq ⟨rfl, hwq⟩
                subst hwq
                go_wp2_with fail
                go_ret
                exact ⟨rfl, HW.out.law.run.bel⟩
              · skip
                go_wp2_with fail
                refine (pk_outcome HW.out.law.run HU.out).mono ?_
                rintro e wq ⟨rfl, hwq⟩
                subst hwq
                go_wp2_with fail
                go_ret
                exact ⟨rfl, HW.out.law.run.bel⟩
            · have HU := Aside0.mk hu
              have HSS := Aside0.mk hs
              clear hu hs
              go_wp2_with fail
              refine (same_ints_below A2 A1 k2 k1 q2 _ HQB.out.1 (Own.c (HW.out.rr 1 _ rfl)) (Own.le (HW.out.rr 1 _ rfl)) (HCA.out _ (Own.c (HW.out.rr 0 _ rfl))) HLA.out).mono ?_
              rintro e wm ⟨rfl, hb⟩
              have hw_ := HW.out.pass hb
              clear HW
              have HW := Aside0.mk hw_
              clear hw_
              clear hb
              go_wp2_with fail
              refine (same_ints_below A4 A3 k4 k3 q4 _ HQB.out.2 (Own.c (HW.out.rr 3 _ rfl)) (Own.le (HW.out.rr 3 _ rfl)) (HCB.out _ (Own.c (HW.out.rr 2 _ rfl))) HLB.out).mono ?_
              rintro e wn ⟨rfl, hb⟩
              have hw_ := HW.out.pass hb
              clear HW
              have HW := Aside0.mk hw_
              clear hw_
              clear hb
              go_wp2_with fail
              refine (pk_got HW.out.law.run HGT.out).mono ?_
              rintro e wo ⟨A5, k5, rfl, w1_, w2_, hb⟩
              have hw_ := HW.out.pass hb
              clear HW
              have HW := Aside0.mk hw_
              clear hw_
              clear hb
              go_wp2_with fail
              refine (same_ints_below A4 A5 k4 k5 q4 _ HQB.out.2 (Own.c (HW.out.rr 3 _ rfl)) (Own.le (HW.out.rr 3 _ rfl)) w1_ w2_).mono ?_
              rintro e wp ⟨rfl, hb⟩
              have hw_ := HW.out.pass hb
              clear HW
              have HW := Aside0.mk hw_
              clear hw_
              clear hb w1_ w2_ hcutA hcutB
              go_wp2_with fail
              refine (pk_outcome HW.out.law.run HU.out).mono ?_
              rintro e wq ⟨rfl, hwq⟩
              subst hwq
              have hs := HSS.out
              by_cases hq : q4.length = xs.length
              · skip
                go_wp2_with fail
                refine (pk_outcome HW.out.law.run HU.out).mono ?_
                rintro e wq ⟨rfl, hwq⟩
                subst hwq
                go_wp2_with fail
                go_ret
                exact ⟨rfl, HW.out.law.run.bel⟩
              · have y0 : ((q4.length : Int) == (xs.length : Int)) = false := beq_eq_false_iff_ne.mpr (by omega)
                have y1 := eq_false (show ¬ (q4.length : Int) = (xs.length : Int) by omega)
                have y2 := eq_false hq
                have y3 : (q4.length == xs.length) = false := beq_eq_false_iff_ne.mpr hq
                clear hq
                go_wp2_with fail
                go_ret
                exact ⟨rfl, HW.out.law.run.bel⟩
end Go.Proofs.Ythcchpbidbbiaaa.Sc
namespace Go.Proofs.Ythcchpbidbbiaaa.schedOnce
open Go.ChangeShapes Go.WideShapes Go.ChangeAt Go.RowKit Go.Joins
open Go.Proofs.YthcchpbidbbiaaaW
set_option linter.unusedVariables false
theorem own : ownKnob Try.prog.godebug = none := by kernel_rfl
theorem laidOut : laidOutB Try.prog = true := by kernel_rfl
set_option maxRecDepth 100000 in
theorem lifted (os : Os) (started : os.Started) (H : Type) (enc : TypeId × Value → H) :
    ReturnsInHanded {} Try.checked os 4 .any (Rows.schedOnceSpec.pre6 enc Try.prog Try.f4 Rows.schedOnceRow.domain false) (Rows.schedOnceSpec.post enc Try.prog Try.f4 false true false false) := by
  refine returnsInHanded_of_change_sized (C := Try.checked) own started (by kernel_rfl) Try.func4
    (ChangeSpec.witness6 (enc := enc) (C := Try.checked) false ⟨#[], #[.agg #[.int .i64 0, .int .i64 0, .int .i64 0, .slice none 0 0, .slice none 0 0, .int .i64 0]], []⟩ 8 (by kernel_rfl) (by kernel_rfl) (by kernel_rfl) (by kernel_rfl)) ?_
  intro W base args ds gs before hval0 hW hcnd hsz0 _
  have hval : ∀ (j : Nat) t v, Try.f4.params[j]? = some t → args[j]? = some v → Value.okWide Try.prog W .any base t v := hval0
  have hW' := hW
  obtain ⟨p, q, hA0, hV, rfl, hfz, hnd⟩ := hW
  have hA : DataW.TrodAll enc Try.prog W 0 (fun _ => true) true Try.f4.params.toList args.toList ds p := hA0
  rw [Try.params4] at hA hval
  obtain ⟨v0, vs0, d0, ds0, p0, q0, hargs, rfl, rfl, h0, r0⟩ := trodAll_cons hA
  obtain ⟨rfl, rfl, rfl⟩ := trodAll_nil r0
  obtain rfl : args = #[v0] := by cases args; simp_all
  obtain ⟨rfl, rfl⟩ := trodVars_none hV
  have k0 := h0
  have lt0 : ∀ x ∈ p0, x.block < W.heap.size := by obtain ⟨m, hm⟩ := k0; exact DataW.trod_lt m _ _ _ hm
  obtain ⟨X, rfl, hX⟩ := Sc.work_open (fun _ => rfl) (hval 0 37 v0 rfl rfl) h0
  clear hA0 hval0 hsz0
  refine (Sc.once_walk X W hX).mono fun e W' ⟨he, bel⟩ => ?_
  subst he
  exact ⟨_, rfl, _, _, _, [], _, [], hW', trodAll_mk1 (shut_bool Try.underlying4 _), (trodAll_cons_mk (Below.trod laidOut (by kernel_rfl) (of_decide_eq_true (by kernel_rfl)) k0 bel lt0) trodAll_mk0), rfl, bel.frame _, fun h => by cases h⟩
theorem over : Rows.schedOnceRow.holds Try.pinned (OpenSpec.ofChange Rows.schedOnceSpec) :=
  OpenClaim.holds_of_wide 4 Try.f4 rfl rfl rfl rfl rfl rfl rfl ⟨rfl, rfl, rfl, rfl, rfl⟩ rfl rfl rfl rfl rfl (by kernel_rfl) Try.func4 (by kernel_rfl)
    (of_decide_eq_true (by kernel_rfl)) (by unfold Func.isWrapper; first | (rw [if_pos (by decide +kernel)]; kernel_rfl) | (rw [if_neg (by decide +kernel)]; exact ⟨rfl, rfl⟩))
    (fun os started H enc _ => lifted os started H enc)
theorem proved : Rows.SchedOnceSaid := over
#print axioms proved
end Go.Proofs.Ythcchpbidbbiaaa.schedOnce
namespace Go.Proofs.Ythcchpbidbbiaaa
/-- The row, under a short name, for the claim. -/
theorem schedOnce_holds : Rows.SchedOnceSaid := schedOnce.proved
end Go.Proofs.Ythcchpbidbbiaaa
