/- Proved: for every Work x and every slice of ints more, SchedCopies returns true: no condition. -/
import Derived.Test.YthcchpbidbbiaaaSci
import Derived.Test.YthcchpbidbbiaaaRows
import Derived.WalkKit
import Derived.ProofKit
import Derived.OpenShut
import Derived.ShutString
import Derived.ChangeOld
import Derived.Below
import Derived.SizedLaws
import Derived.Lib.SmallJoins
namespace Go.Proofs.Ythcchpbidbbiaaa.Sc
open Go.RowKit Go.Proofs.YthcchpbidbbiaaaW.PrintWords Go.Proofs.YthcchpbidbbiaaaW.PrintLast Go.Proofs.YthcchpbidbbiaaaW.PrintMore Go.Proofs.Ythcchpbidbbiaaa.PSchedSide
set_option linter.unusedVariables false
set_option linter.unusedSimpArgs false
theorem cell4 {X : Raw} {W : World} {b : Nat} {ad : Addr} (hb : W.heap[b]? = some (.cells (wcells X) 37 (0, 0))) (e : X.A4 = some ad) : W.cell? ⟨b, 4, none⟩ = some (.slice (some ad) X.l4.length X.c4) := by
  rw [← e]
  exact (blk_cell hb 4).trans rfl
def runM (m : Mach) (l : List Int) : Mach := l.foldl pickM m
theorem runM_snoc (m : Mach) (l : List Int) (k : Nat) (hk : k < l.length) : runM m (l.take (k + 1)) = pickM (runM m (l.take k)) (rd l k) := by
  have e : rd l k = l[k] := by simp [rd, hk]
  rw [List.take_succ_eq_append_getElem hk, e]
  unfold runM
  rw [List.foldl_append]
  rfl
theorem pick_picks (m : Mach) (k : Int) : m.picks ≤ (pickM m k).picks := by
  unfold pickM
  by_cases h : mvs m = []
  · rw [if_pos h]; omega
  · rw [if_neg h]; show m.picks ≤ m.picks + 1; omega
theorem runM_picks (l : List Int) : ∀ m : Mach, m.picks ≤ (runM m l).picks := by
  induction l with
  | nil => intro m; exact Int.le_refl _
  | cons x l ih =>
    intro m
    have h1 := pick_picks m x
    have h2 := ih (pickM m x)
    show m.picks ≤ (runM (pickM m x) l).picks
    omega
theorem wlen {w W : World} {M : Nat → Prop} {X : Raw} {b1 b4 g : Nat} {pw pj pr : Int} {v : Value} {xs : List Int} {m : Mach} {l : List (Nat × Mach)} (h : LawL w W M X b1 b4 pw pj pr v xs l) {i : Nat} (hi : l[i]? = some (g, m)) : (m.workers.length : Int) = pw := by
  rw [(h.run hi).inv.ok.nw, (h.eqs hi).2]
set_option maxHeartbeats 32000000 in
set_option maxRecDepth 1000000 in
theorem copies_walk (X : Raw) (w : World) (hX : X.In w) (hlen : X.l4.length ≤ maxLen) (AO : Option Addr) (lo : List Int) (co : Nat) (hCO : Kd.C (Kd.int .i64) w AO lo.length lo) (hco : lo.length ≤ co) (hlo : lo.length ≤ maxLen) : Calls Try.prog 11 #[.agg #[.int .i64 X.x0, .int .i64 X.x1, .int .i64 X.x2, .slice X.A3 X.l3.length X.c3, .slice X.A4 X.l4.length X.c4, .int .i64 X.x5], .slice AO lo.length co] w fun e w' => e = .returned (.bool true) ∧ Below w.heap.size w w' := by
  unfold maxLen at hlen hlo
  have HB := Aside0.mk (below_alloc (Below.refl w.heap.size w) (.cells (wcells X) 37))
  have HX := Aside0.mk (heap_alloc_new w (.cells (wcells X) 37))
  have HXW := Aside0.mk hX
  clear hX
  have HCO := Aside0.mk hCO
  have HLEN := Aside0.mk hlen
  have HLO := Aside0.mk hlo
  clear hCO hco hlen hlo
  go_enter Try.func11, Try.ntmps11
  go_wp2_with (first | (go_at_call 12; (with_reducible refine (awake_calls _).mono ?_); rintro e w1 ⟨rfl, hb⟩; have HB1 := Aside0.mk (HB.out.trans (hb.mono HB.out.size)); have HX1 := Aside0.mk ((hb.block _ (blk_lt HX.out)).trans HX.out); have HXI := Aside0.mk (HXW.out.below HB1.out); have c0 : w1.cell? ⟨w.heap.size, 0, none⟩ = some (.int .i64 X.x0) := (blk_cell HX1.out 0).trans rfl; have c1 : w1.cell? ⟨w.heap.size, 1, none⟩ = some (.int .i64 X.x1) := (blk_cell HX1.out 1).trans rfl; have c2 : w1.cell? ⟨w.heap.size, 2, none⟩ = some (.int .i64 X.x2) := (blk_cell HX1.out 2).trans rfl; have c3 : w1.cell? ⟨w.heap.size, 3, none⟩ = some (.slice X.A3 X.l3.length X.c3) := (blk_cell HX1.out 3).trans rfl; have c4 : w1.cell? ⟨w.heap.size, 4, none⟩ = some (.slice X.A4 X.l4.length X.c4) := (blk_cell HX1.out 4).trans rfl; have c5 : w1.cell? ⟨w.heap.size, 5, none⟩ = some (.int .i64 X.x5) := (blk_cell HX1.out 5).trans rfl; clear hb) | (go_at_call 16; (with_reducible refine (l_plain X HXI.out).mono ?_); rintro e w2 ⟨pw, pj, pr, A, c, xs, rfl, hp, hl, hj, hr, hb⟩; have HP := Aside0.mk hp; have HLN := Aside0.mk hl; have HJS := Aside0.mk hj; have HB2 := Aside0.mk (below_alloc (HB1.out.trans (hb.mono HB1.out.size)) (.cells #[.int .i64 pw, .int .i64 pj, .int .i64 pr] 23)); have HX2 := Aside0.mk (blk_alloc ((hb.block _ (blk_lt HX1.out)).trans HX1.out) (.cells #[.int .i64 pw, .int .i64 pj, .int .i64 pr] 23)); have HQ2 := Aside0.mk (heap_alloc_new w2 (.cells #[.int .i64 pw, .int .i64 pj, .int .i64 pr] 23)); have HV2 := Aside0.mk (Own.of rfl (Kd.R_alloc hr (.cells #[.int .i64 pw, .int .i64 pj, .int .i64 pr] 23))); have HW1 := Aside0.mk (Nat.le_trans HB1.out.size hb.size); have HV0 := Aside0.mk (fun k (hk : some k = (Value.slice A xs.length c).ownBlock) => Nat.le_trans HB1.out.size (Kd.R_base hr k hk.symm)); clear c0 c1 c2 c3 c4 c5; clear hp hl hj hr hb) | (go_at_call 15; (with_reducible refine (l_new (b1 := w.heap.size) (b4 := w2.heap.size) X A c HB2.out HP.out HLN.out HJS.out HX2.out (Nat.le_refl _) HQ2.out HW1.out HV2.out HV0.out).mono ?_); rintro e w3 ⟨g, rfl, hL, hb⟩; have HL := Aside0.mk hL; have c0 : w3.cell? ⟨w.heap.size, 0, none⟩ = some (.int .i64 X.x0) := (blk_cell HL.out.wb 0).trans rfl; have c1 : w3.cell? ⟨w.heap.size, 1, none⟩ = some (.int .i64 X.x1) := (blk_cell HL.out.wb 1).trans rfl; have c2 : w3.cell? ⟨w.heap.size, 2, none⟩ = some (.int .i64 X.x2) := (blk_cell HL.out.wb 2).trans rfl; have c3 : w3.cell? ⟨w.heap.size, 3, none⟩ = some (.slice X.A3 X.l3.length X.c3) := (blk_cell HL.out.wb 3).trans rfl; have c4 : w3.cell? ⟨w.heap.size, 4, none⟩ = some (.slice X.A4 X.l4.length X.c4) := (blk_cell HL.out.wb 4).trans rfl; have c5 : w3.cell? ⟨w.heap.size, 5, none⟩ = some (.int .i64 X.x5) := (blk_cell HL.out.wb 5).trans rfl; have d0 : w3.cell? ⟨w2.heap.size, 0, none⟩ = some (.int .i64 pw) := (blk_cell HL.out.pb 0).trans rfl; have d1 : w3.cell? ⟨w2.heap.size, 1, none⟩ = some (.int .i64 pj) := (blk_cell HL.out.pb 1).trans rfl; have d2 : w3.cell? ⟨w2.heap.size, 2, none⟩ = some (.int .i64 pr) := (blk_cell HL.out.pb 2).trans rfl; clear hL hb HX HX1 HX2 HQ2 HV2 HV0))
  clear c0 c1 c2 c3 c4 c5 d0 d1 d2 HB HB1 HB2
  have n_ := Aside0.mk HL.out.toL
  clear HL
  have HL := n_
  clear n_
  go_loopw [11] (fun i wr => ∃ (k : Nat) (m : Mach), i = .int .i64 k ∧ k ≤ X.l4.length ∧ LawL w wr (fun _ => False) X w.heap.size w2.heap.size pw pj pr (.slice A xs.length c) xs [(g, m)]) (fun i _ => X.l4.length - (intOf i).toNat)
  case atStart => exact ⟨0, _, rfl, Nat.zero_le _, HL.out⟩
  case round =>
    obtain ⟨k, m, rfl, hk, hL⟩ := hrel
    clear HL
    have HL := Aside0.mk hL
    have hk63 : (k : Int) ≤ 9223372036854775807 := by have := HLEN.out; omega
    have hk0 : (0 : Int) ≤ (k : Int) := Int.natCast_nonneg _
    by_cases hlt : k < X.l4.length
    · have p0 : decide ((k : Int) < (X.l4.length : Int)) = true := decide_eq_true (by omega)
      have p1 := eq_true (show (k : Int) < (X.l4.length : Int) by omega)
      obtain ⟨ad, ead, hy0⟩ := Kd.at_int HXW.out.h4 k (Int.natCast_nonneg _) (by omega)
      rw [Int.toNat_natCast] at hy0
      obtain ⟨v, hv⟩ : ∃ v, rd X.l4 k = v := ⟨_, rfl⟩
      rw [hv] at hy0
      have HAD := Aside0.mk ead
      have HYO := Aside0.mk (fun W' (hb : Below w.heap.size w W') => pw_cell_below hb hy0)
      have HLT := Aside0.mk hlt
      have hk62 : (k : Int) + 1 ≤ 9223372036854775807 := by have := HLEN.out; omega
      have c4 : wr.cell? ⟨w.heap.size, 4, none⟩ = some (.slice (some ad) X.l4.length X.c4) := cell4 HL.out.wb HAD.out
      have c5 : wr.cell? ⟨w.heap.size, 5, none⟩ = some (.int .i64 X.x5) := (blk_cell HL.out.wb 5).trans rfl
      clear hL hk hlt ead hy0 hv
      by_cases hc : (k : Int) = X.x5
      · obtain ⟨cs, hcs⟩ : ∃ c, canStop m = c := ⟨_, rfl⟩
        have HCS := Aside0.mk hcs
        obtain ⟨m1, hm1⟩ : ∃ m1, stopM m = m1 := ⟨_, rfl⟩
        have HM1 := Aside0.mk hm1
        obtain ⟨z0, z1, z2, z3, hz⟩ : ∃ z0 z1 z2 z3, pickE m1 v = ⟨z0, z1, z2, z3⟩ := ⟨_, _, _, _, rfl⟩
        obtain ⟨er, her⟩ : ∃ er, pickR m1 = er := ⟨_, rfl⟩
        have HZ := Aside0.mk hz
        have HER := Aside0.mk her
        have HI0 := Aside0.mk (show [(g, m)][0]? = some (g, m) from rfl)
        have HI1 := Aside0.mk (show [(g, m1)][0]? = some (g, m1) from rfl)
        have q8 : ((k : Int) == X.x5) = true := beq_iff_eq.mpr hc
        have q9 := eq_true hc
        clear hcs hm1 hz her hc
        go_wp2_with (first | (go_at_call 18; ((with_reducible refine (ll_cancel HL.out 0 HI0.out HCS.out).mono ?_); rintro e wa ⟨rfl, hL, hh⟩; clear HL c4 c5; have HL := Aside0.mk (show LawL w wa (fun _ => False) X w.heap.size w2.heap.size pw pj pr (.slice A xs.length c) xs [(g, stopM m)] from hL); rw [HM1.out] at HL; have c4 : wa.cell? ⟨w.heap.size, 4, none⟩ = some (.slice (some ad) X.l4.length X.c4) := cell4 HL.out.wb HAD.out; have hyo := HYO.out _ HL.out.fl.bel; clear hL hh)) | (go_at_call 19; ((with_reducible refine (ll_pick HL.out 0 HI1.out v HZ.out HER.out).mono ?_); rintro e wb ⟨rfl, hL, hh⟩; clear HL; have HL := Aside0.mk (show LawL w wb (fun _ => False) X w.heap.size w2.heap.size pw pj pr (.slice A xs.length c) xs [(g, pickM m1 v)] from hL); clear hL hh)))
        go_roundw
        case rel => exact ⟨k + 1, _, by go_num, HLT.out, HL.out⟩
        case measure => have := HLT.out; simp [intOf]; omega
      · obtain ⟨z0, z1, z2, z3, hz⟩ : ∃ z0 z1 z2 z3, pickE m v = ⟨z0, z1, z2, z3⟩ := ⟨_, _, _, _, rfl⟩
        obtain ⟨er, her⟩ : ∃ er, pickR m = er := ⟨_, rfl⟩
        have HZ := Aside0.mk hz
        have HER := Aside0.mk her
        have HI1 := Aside0.mk (show [(g, m)][0]? = some (g, m) from rfl)
        have q8 : ((k : Int) == X.x5) = false := beq_eq_false_iff_ne.mpr hc
        have q9 := eq_false hc
        have hyo := HYO.out _ HL.out.fl.bel
        clear hz her hc
        go_wp2_with (first | (go_at_call 19; ((with_reducible refine (ll_pick HL.out 0 HI1.out v HZ.out HER.out).mono ?_); rintro e wb ⟨rfl, hL, hh⟩; clear HL; have HL := Aside0.mk (show LawL w wb (fun _ => False) X w.heap.size w2.heap.size pw pj pr (.slice A xs.length c) xs [(g, pickM m v)] from hL); clear hL hh)))
        go_roundw
        case rel => exact ⟨k + 1, _, by go_num, HLT.out, HL.out⟩
        case measure => have := HLT.out; simp [intOf]; omega
    · have p0 : decide ((k : Int) < (X.l4.length : Int)) = false := decide_eq_false (by omega)
      have p1 := eq_false (show ¬ (k : Int) < (X.l4.length : Int) by omega)
      have c4 : wr.cell? ⟨w.heap.size, 4, none⟩ = some (.slice X.A4 X.l4.length X.c4) := (blk_cell HL.out.wb 4).trans rfl
      have HIA := Aside0.mk (show [(g, m)][0]? = some (g, m) from rfl)
      have HIB := Aside0.mk (fun ga => show [(g, m), (ga, m)][0]? = some (g, m) from rfl)
      have HPW := Aside0.mk (wlen HL.out HIA.out)
      obtain ⟨pk0, hpk0⟩ : ∃ p, m.peak = p := ⟨_, rfl⟩
      have HPK := Aside0.mk hpk0
      clear hpk0
      have HJ0 := Aside0.mk (fun ga gb => show [(g, m), (ga, m), (gb, m)][0]? = some (g, m) from rfl)
      have HJ1 := Aside0.mk (fun ga gb => show [(g, m), (ga, m), (gb, m)][1]? = some (ga, m) from rfl)
      have HJ2 := Aside0.mk (fun ga gb => show [(g, m), (ga, m), (gb, m)][2]? = some (gb, m) from rfl)
      clear hL hk hlt
      go_wp2_with (first | (go_at_call 42; first | ((with_reducible refine (ll_copy HL.out 0 HIA.out).mono ?_); rintro e wc ⟨ga, rfl, hL, hb⟩; clear HL c4; have HL := Aside0.mk (show LawL w wc (fun _ => False) X w.heap.size w2.heap.size pw pj pr (.slice A xs.length c) xs [(g, m), (ga, m)] from hL); clear hL hb) | ((with_reducible refine (ll_copy HL.out 0 (HIB.out ga)).mono ?_); rintro e wd ⟨gb, rfl, hL, hb⟩; clear HL; have HL := Aside0.mk (show LawL w wd (fun _ => False) X w.heap.size w2.heap.size pw pj pr (.slice A xs.length c) xs [(g, m), (ga, m), (gb, m)] from hL); have d0 : wd.cell? ⟨w2.heap.size, 0, none⟩ = some (.int .i64 pw) := (blk_cell HL.out.pb 0).trans rfl; have d1 : wd.cell? ⟨w2.heap.size, 1, none⟩ = some (.int .i64 pj) := (blk_cell HL.out.pb 1).trans rfl; have d2 : wd.cell? ⟨w2.heap.size, 2, none⟩ = some (.int .i64 pr) := (blk_cell HL.out.pb 2).trans rfl; clear hL hb)) | (go_at_call 43; ((with_reducible refine (alike_calls w _ _ ga gb _ _ pw pj pr (HL.out.run (HJ1.out ga gb)) (HL.out.run (HJ2.out ga gb)) (Like.refl _) (wlen HL.out (HJ1.out ga gb))).mono ?_); rintro e we ⟨rfl, hb⟩; have hl_ := HL.out.pass hb; clear HL; have HL := Aside0.mk hl_; clear hl_ hb)) | (go_at_call 31; first | ((with_reducible refine (pk_peak (HL.out.run (HJ1.out ga gb)) HPK.out).mono ?_); rintro e wx ⟨rfl, hwx⟩; subst hwx) | ((with_reducible refine (pk_peak (HL.out.run (HJ0.out ga gb)) HPK.out).mono ?_); rintro e wx ⟨rfl, hwx⟩; subst hwx)))
      clear d0 d1 d2 p0 p1 HJ0 HJ1 HJ2 HIA HIB hk63 hk0
      go_loopw [14] (fun i wr => ∃ (k : Nat), i = .int .i64 k ∧ k ≤ lo.length ∧ LawL w wr (fun _ => False) X w.heap.size w2.heap.size pw pj pr (.slice A xs.length c) xs [(g, (runM m (lo.take k))), (ga, (runM m (lo.take k))), (gb, m)]) (fun i _ => lo.length - (intOf i).toNat)
      case atStart => exact ⟨0, rfl, Nat.zero_le _, HL.out⟩
      case round =>
        obtain ⟨k2, rfl, hk, hL⟩ := hrel
        clear HL
        by_cases hlt : k2 < lo.length
        · have hru := runM_snoc m lo k2 hlt
          obtain ⟨mk, hmk⟩ : ∃ mk, runM m (lo.take k2) = mk := ⟨_, rfl⟩
          rw [hmk] at hL hru
          have HL := Aside0.mk hL
          have p0 : decide ((k2 : Int) < (lo.length : Int)) = true := decide_eq_true (by omega)
          have p1 := eq_true (show (k2 : Int) < (lo.length : Int) by omega)
          obtain ⟨ad, ead, hy0⟩ := Kd.at_int HCO.out k2 (Int.natCast_nonneg _) (by omega)
          subst ead
          rw [Int.toNat_natCast] at hy0
          obtain ⟨v, hv⟩ : ∃ v, rd lo k2 = v := ⟨_, rfl⟩
          rw [hv] at hy0 hru
          have HRU := Aside0.mk hru
          have HYO := Aside0.mk (fun W' (hb : Below w.heap.size w W') => pw_cell_below hb hy0)
          have HLT := Aside0.mk hlt
          have hk62 : (k2 : Int) + 1 ≤ 9223372036854775807 := by have := HLO.out; omega
          have hk63 : (k2 : Int) ≤ 9223372036854775807 := by have := HLO.out; omega
          have hk0 : (0 : Int) ≤ (k2 : Int) := Int.natCast_nonneg _
          obtain ⟨z0, z1, z2, z3, hz⟩ : ∃ z0 z1 z2 z3, pickE mk v = ⟨z0, z1, z2, z3⟩ := ⟨_, _, _, _, rfl⟩
          obtain ⟨er, her⟩ : ∃ er, pickR mk = er := ⟨_, rfl⟩
          have HZ := Aside0.mk hz
          have HER := Aside0.mk her
          have HK1 := Aside0.mk (show [(g, mk), (ga, mk), (gb, m)][1]? = some (ga, mk) from rfl)
          have HK0 := Aside0.mk (show [(g, mk), (ga, pickM mk v), (gb, m)][0]? = some (g, mk) from rfl)
          have hyo := HYO.out _ HL.out.fl.bel
          clear hL hk hlt hy0 hv hz her hmk hru
          go_wp2_with (first | (go_at_call 19; first | ((with_reducible refine (ll_pick HL.out 1 HK1.out v HZ.out HER.out).mono ?_); rintro e wf ⟨rfl, hL, hh⟩; have hl_ := (show LawL w wf (fun _ => False) X w.heap.size w2.heap.size pw pj pr (.slice A xs.length c) xs [(g, mk), (ga, pickM mk v), (gb, m)] from hL).box (.cells #[.int .i64 z0, .int .i64 z1, .int .i64 z2, .int .i64 z3] 42); have hn_ := heap_alloc_new wf (.cells #[.int .i64 z0, .int .i64 z1, .int .i64 z2, .int .i64 z3] 42); obtain ⟨wf2, hwf⟩ : ∃ W0, wf.alloc (.cells #[.int .i64 z0, .int .i64 z1, .int .i64 z2, .int .i64 z3] 42) = W0 := ⟨_, rfl⟩; rw [hwf] at hl_ hn_; obtain ⟨b15, hb15⟩ : ∃ b, wf.heap.size = b := ⟨_, rfl⟩; rw [hb15] at hl_ hn_; clear HL hyo; have HL := Aside0.mk hl_; have HN := Aside0.mk hn_; have hyo := HYO.out _ HL.out.fl.bel; clear hL hh hl_ hn_) | ((with_reducible refine (ll_pick HL.out 0 HK0.out v HZ.out HER.out).mono ?_); rintro e wg ⟨rfl, hL, hh⟩; have hl_ := ((show LawL w wg (fun k => k = b15) X w.heap.size w2.heap.size pw pj pr (.slice A xs.length c) xs [(g, pickM mk v), (ga, pickM mk v), (gb, m)] from hL).less (M' := fun _ => False) (fun k hk => hk.elim)).alloc (.cells #[.int .i64 z0, .int .i64 z1, .int .i64 z2, .int .i64 z3] 42); have hm_ := blk_alloc (hh.own (M := fun k => k = b15) rfl HN.out) (.cells #[.int .i64 z0, .int .i64 z1, .int .i64 z2, .int .i64 z3] 42); have hn_ := heap_alloc_new wg (.cells #[.int .i64 z0, .int .i64 z1, .int .i64 z2, .int .i64 z3] 42); obtain ⟨wg2, hwg⟩ : ∃ W0, wg.alloc (.cells #[.int .i64 z0, .int .i64 z1, .int .i64 z2, .int .i64 z3] 42) = W0 := ⟨_, rfl⟩; rw [hwg] at hl_ hn_ hm_; obtain ⟨b17, hb17⟩ : ∃ b, wg.heap.size = b := ⟨_, rfl⟩; rw [hb17] at hn_; clear HL HN hyo; have HL := Aside0.mk hl_; have HN := Aside0.mk hn_; have HN0 := Aside0.mk hm_; have e0 : wg2.cell? ⟨b15, 0, none⟩ = some (.int .i64 z0) := (blk_cell HN0.out 0).trans rfl; have e1 : wg2.cell? ⟨b15, 1, none⟩ = some (.int .i64 z1) := (blk_cell HN0.out 1).trans rfl; have e2 : wg2.cell? ⟨b15, 2, none⟩ = some (.int .i64 z2) := (blk_cell HN0.out 2).trans rfl; have e3 : wg2.cell? ⟨b15, 3, none⟩ = some (.int .i64 z3) := (blk_cell HN0.out 3).trans rfl; have f0 : wg2.cell? ⟨b17, 0, none⟩ = some (.int .i64 z0) := (blk_cell HN.out 0).trans rfl; have f1 : wg2.cell? ⟨b17, 1, none⟩ = some (.int .i64 z1) := (blk_cell HN.out 1).trans rfl; have f2 : wg2.cell? ⟨b17, 2, none⟩ = some (.int .i64 z2) := (blk_cell HN.out 2).trans rfl; have f3 : wg2.cell? ⟨b17, 3, none⟩ = some (.int .i64 z3) := (blk_cell HN.out 3).trans rfl; clear hL hh hl_ hn_ hm_)))
          go_roundw
          case rel => exact ⟨k2 + 1, by go_num, HLT.out, by rw [HRU.out]; exact HL.out⟩
          case measure => have := HLT.out; simp [intOf]; omega
        · have hfull : lo.take k2 = lo := List.take_of_length_le (by omega)
          rw [hfull] at hL
          obtain ⟨mk, hmk⟩ : ∃ mk, runM m lo = mk := ⟨_, rfl⟩
          rw [hmk] at hL
          have HL := Aside0.mk hL
          have HMK := Aside0.mk hmk
          have p0 : decide ((k2 : Int) < (lo.length : Int)) = false := decide_eq_false (by omega)
          have p1 := eq_false (show ¬ (k2 : Int) < (lo.length : Int) by omega)
          obtain ⟨cs, hcs⟩ : ∃ c, canStop mk = c := ⟨_, rfl⟩
          have HCS := Aside0.mk hcs
          obtain ⟨mc, hmc⟩ : ∃ mc, stopM mk = mc := ⟨_, rfl⟩
          have HMC := Aside0.mk hmc
          obtain ⟨y0, y1, y2, y3, y4, hme⟩ : ∃ z0 z1 z2 z3 z4, measOf m = ⟨z0, z1, z2, z3, z4⟩ := ⟨_, _, _, _, _, rfl⟩
          have HME := Aside0.mk hme
          have HK1 := Aside0.mk (show [(g, mk), (ga, mk), (gb, m)][1]? = some (ga, mk) from rfl)
          have HK0 := Aside0.mk (show [(g, mk), (ga, mc), (gb, m)][0]? = some (g, mk) from rfl)
          have HK2 := Aside0.mk (fun gc => show [(g, mk), (ga, mc), (gb, m), (gc, mk)][2]? = some (gb, m) from rfl)
          have HQ0 := Aside0.mk (fun gc gd => show [(g, mk), (ga, mc), (gb, m), (gc, mk), (gd, m)][0]? = some (g, mk) from rfl)
          have HQ2 := Aside0.mk (fun gc gd => show [(g, mk), (ga, mc), (gb, m), (gc, mk), (gd, m)][2]? = some (gb, m) from rfl)
          have HQ3 := Aside0.mk (fun gc gd => show [(g, mk), (ga, mc), (gb, m), (gc, mk), (gd, m)][3]? = some (gc, mk) from rfl)
          have HQ4 := Aside0.mk (fun gc gd => show [(g, mk), (ga, mc), (gb, m), (gc, mk), (gd, m)][4]? = some (gd, m) from rfl)
          clear hL hk hlt hfull hmk hcs hmc hme
          go_wp2_with (first | (go_at_call 18; ((with_reducible refine (ll_cancel HL.out 1 HK1.out HCS.out).mono ?_); rintro e wh ⟨rfl, hL, hh⟩; clear HL; have HL := Aside0.mk (show LawL w wh (fun _ => False) X w.heap.size w2.heap.size pw pj pr (.slice A xs.length c) xs [(g, mk), (ga, stopM mk), (gb, m)] from hL); rw [HMC.out] at HL; clear hL hh)) | (go_at_call 42; first | ((with_reducible refine (ll_copy HL.out 0 HK0.out).mono ?_); rintro e wi ⟨gc, rfl, hL, hb⟩; clear HL; have HL := Aside0.mk (show LawL w wi (fun _ => False) X w.heap.size w2.heap.size pw pj pr (.slice A xs.length c) xs [(g, mk), (ga, mc), (gb, m), (gc, mk)] from hL); clear hL hb) | ((with_reducible refine (ll_copy HL.out 2 (HK2.out gc)).mono ?_); rintro e wj ⟨gd, rfl, hL, hb⟩; clear HL; have HL := Aside0.mk (show LawL w wj (fun _ => False) X w.heap.size w2.heap.size pw pj pr (.slice A xs.length c) xs [(g, mk), (ga, mc), (gb, m), (gc, mk), (gd, m)] from hL); have d0 : wj.cell? ⟨w2.heap.size, 0, none⟩ = some (.int .i64 pw) := (blk_cell HL.out.pb 0).trans rfl; have d1 : wj.cell? ⟨w2.heap.size, 1, none⟩ = some (.int .i64 pj) := (blk_cell HL.out.pb 1).trans rfl; have d2 : wj.cell? ⟨w2.heap.size, 2, none⟩ = some (.int .i64 pr) := (blk_cell HL.out.pb 2).trans rfl; clear hL hb)) | (go_at_call 43; first | ((with_reducible refine (alike_calls w _ _ gc g _ _ pw pj pr (HL.out.run (HQ3.out gc gd)) (HL.out.run (HQ0.out gc gd)) (Like.refl _) (wlen HL.out (HQ3.out gc gd))).mono ?_); rintro e wk ⟨rfl, hb⟩; have hl_ := HL.out.pass hb; clear HL; have HL := Aside0.mk hl_; clear hl_ hb; clear d0 d1 d2; have d0 : wk.cell? ⟨w2.heap.size, 0, none⟩ = some (.int .i64 pw) := (blk_cell HL.out.pb 0).trans rfl; have d1 : wk.cell? ⟨w2.heap.size, 1, none⟩ = some (.int .i64 pj) := (blk_cell HL.out.pb 1).trans rfl; have d2 : wk.cell? ⟨w2.heap.size, 2, none⟩ = some (.int .i64 pr) := (blk_cell HL.out.pb 2).trans rfl) | ((with_reducible refine (alike_calls w _ _ gd gb _ _ pw pj pr (HL.out.run (HQ4.out gc gd)) (HL.out.run (HQ2.out gc gd)) (Like.refl _) (wlen HL.out (HQ4.out gc gd))).mono ?_); rintro e wl ⟨rfl, hb⟩; have hl_ := HL.out.pass hb; clear HL; have HL := Aside0.mk hl_; clear hl_ hb)) | (go_at_call 32; ((with_reducible refine (pk_measure (HL.out.run (HQ4.out gc gd)) HME.out).mono ?_); rintro e wm ⟨rfl, hb⟩; have hl_ := (HL.out.pass hb).box (.cells #[.int .i64 y0, .int .i64 y1, .int .i64 y2, .int .i64 y3, .int .i64 y4] 68); have hn_ := heap_alloc_new wm (.cells #[.int .i64 y0, .int .i64 y1, .int .i64 y2, .int .i64 y3, .int .i64 y4] 68); obtain ⟨wm2, hwm⟩ : ∃ W0, wm.alloc (.cells #[.int .i64 y0, .int .i64 y1, .int .i64 y2, .int .i64 y3, .int .i64 y4] 68) = W0 := ⟨_, rfl⟩; rw [hwm] at hl_ hn_; obtain ⟨b21, hb21⟩ : ∃ b, wm.heap.size = b := ⟨_, rfl⟩; rw [hb21] at hl_ hn_; clear HL; have HL := Aside0.mk hl_; have HN := Aside0.mk hn_; clear hb hl_ hn_ d0 d1 d2)))
          clear p0 p1
          go_loopw [22] (fun i wr => ∃ (k : Nat), i = .int .i64 k ∧ k ≤ lo.length ∧ LawL w wr (fun k => k = b21) X w.heap.size w2.heap.size pw pj pr (.slice A xs.length c) xs [(g, mk), (ga, mc), (gb, (runM m (lo.take k))), (gc, mk), (gd, m)] ∧ wr.heap[b21]? = some (.cells #[.int .i64 y0, .int .i64 y1, .int .i64 y2, .int .i64 y3, .int .i64 y4] 68 (0, 0))) (fun i _ => lo.length - (intOf i).toNat)
          case atStart => exact ⟨0, rfl, Nat.zero_le _, HL.out, HN.out⟩
          case round =>
            obtain ⟨k3, rfl, hk, hL, hN⟩ := hrel
            clear HL HN
            have HN := Aside0.mk hN
            by_cases hlt : k3 < lo.length
            · have hru := runM_snoc m lo k3 hlt
              obtain ⟨mb, hmb⟩ : ∃ mb, runM m (lo.take k3) = mb := ⟨_, rfl⟩
              rw [hmb] at hL hru
              have HL := Aside0.mk hL
              have p0 : decide ((k3 : Int) < (lo.length : Int)) = true := decide_eq_true (by omega)
              have p1 := eq_true (show (k3 : Int) < (lo.length : Int) by omega)
              obtain ⟨ad, ead, hy0⟩ := Kd.at_int HCO.out k3 (Int.natCast_nonneg _) (by omega)
              subst ead
              rw [Int.toNat_natCast] at hy0
              obtain ⟨v, hv⟩ : ∃ v, rd lo k3 = v := ⟨_, rfl⟩
              rw [hv] at hy0 hru
              have HRU := Aside0.mk hru
              have HYO := Aside0.mk (fun W' (hb : Below w.heap.size w W') => pw_cell_below hb hy0)
              have HLT := Aside0.mk hlt
              have hk62 : (k3 : Int) + 1 ≤ 9223372036854775807 := by have := HLO.out; omega
              have hk63 : (k3 : Int) ≤ 9223372036854775807 := by have := HLO.out; omega
              have hk0 : (0 : Int) ≤ (k3 : Int) := Int.natCast_nonneg _
              obtain ⟨z0, z1, z2, z3, hz⟩ : ∃ z0 z1 z2 z3, pickE mb v = ⟨z0, z1, z2, z3⟩ := ⟨_, _, _, _, rfl⟩
              obtain ⟨er, her⟩ : ∃ er, pickR mb = er := ⟨_, rfl⟩
              have HZ := Aside0.mk hz
              have HER := Aside0.mk her
              have HT2 := Aside0.mk (show [(g, mk), (ga, mc), (gb, mb), (gc, mk), (gd, m)][2]? = some (gb, mb) from rfl)
              have hyo := HYO.out _ HL.out.fl.bel
              clear hL hk hlt hy0 hv hz her hmb hru hN
              go_wp2_with (first | (go_at_call 19; ((with_reducible refine (ll_pick HL.out 2 HT2.out v HZ.out HER.out).mono ?_); rintro e wn ⟨rfl, hL, hh⟩; have hn_ := hh.own (M := fun k => k = b21) rfl HN.out; clear HL HN hyo; have HL := Aside0.mk (show LawL w wn (fun k => k = b21) X w.heap.size w2.heap.size pw pj pr (.slice A xs.length c) xs [(g, mk), (ga, mc), (gb, (pickM mb v)), (gc, mk), (gd, m)] from hL); have HN := Aside0.mk hn_; clear hL hh hn_)))
              go_roundw
              case rel => exact ⟨k3 + 1, by go_num, HLT.out, by rw [HRU.out]; exact HL.out, HN.out⟩
              case measure => have := HLT.out; simp [intOf]; omega
            · have hfull : lo.take k3 = lo := List.take_of_length_le (by omega)
              rw [hfull, HMK.out] at hL
              have HL := Aside0.mk (show LawL w wr (fun k => k = b21) X w.heap.size w2.heap.size pw pj pr (.slice A xs.length c) xs [(g, mk), (ga, mc), (gb, mk), (gc, mk), (gd, m)] from hL)
              have p0 : decide ((k3 : Int) < (lo.length : Int)) = false := decide_eq_false (by omega)
              have p1 := eq_false (show ¬ (k3 : Int) < (lo.length : Int) by omega)
              have HU0 := Aside0.mk (show [(g, mk), (ga, mc), (gb, mk), (gc, mk), (gd, m)][0]? = some (g, mk) from rfl)
              have HU2 := Aside0.mk (show [(g, mk), (ga, mc), (gb, mk), (gc, mk), (gd, m)][2]? = some (gb, mk) from rfl)
              have HU4 := Aside0.mk (show [(g, mk), (ga, mc), (gb, mk), (gc, mk), (gd, m)][4]? = some (gd, m) from rfl)
              obtain ⟨pk2, hpk2⟩ : ∃ p, mk.peak = p := ⟨_, rfl⟩
              have HPK2 := Aside0.mk hpk2
              obtain ⟨px, hpx⟩ : ∃ p, m.picks = p := ⟨_, rfl⟩
              have HPX := Aside0.mk hpx
              obtain ⟨py, hpy⟩ : ∃ p, mk.picks = p := ⟨_, rfl⟩
              have HPY := Aside0.mk hpy
              have hle : px ≤ py := by rw [← hpx, ← hpy, ← HMK.out]; exact runM_picks lo m
              have hled : decide (px ≤ py) = true := decide_eq_true hle
              have hlet := eq_true hle
              clear hL hk hlt hfull hN hpk2 hpx hpy hle
              go_wp2
              clear p0 p1
              have hl_ := Aside0.mk (HL.out.pass (below_drew (Below.refl _ _)))
              have hn_ := Aside0.mk (((below_drew (Below.refl wr.heap.size wr)).block _ (blk_lt HN.out)).trans HN.out)
              clear HL HN
              have HL := hl_
              have HN := hn_
              clear hl_ hn_
              refine start_ (n := 25) (S := fun w' => w'.heap[w2.heap.size]? = some (.cells #[.int .i64 pw, .int .i64 pj, .int .i64 pr] 23 (0, 0)) ∧ w'.heap[b21]? = some (.cells #[.int .i64 y0, .int .i64 y1, .int .i64 y2, .int .i64 y3, .int .i64 y4] 68 (0, 0))) (ds := []) #[false, false, false, false, false, false, false, false, false, false, false, false, false, false, false, false, false, false, false, false, false, false, false, false, false] (by kernel_rfl) rfl rfl ⟨HL.out.pb, HN.out⟩ (fun hHeld => ?_)
              generalize wr.drew = Wd at HL HN hHeld ⊢
              refine pure_ (i := 0) (N := (some 162)) (v := ?_) (a' := ?_) #[true, false, false, false, false, false, false, false, false, false, false, false, false, false, false, false, false, false, false, false, false, false, false, false, false] rfl rfl (by kernel_rfl) (fun _ _ _ h => h) (Or.inl ⟨by rfl, ?_⟩) ?_ ?_
              rotate_left
              · intro w'
                go_simp
                with_reducible rfl
              rotate_left
              · simp only [Act.put, List.setIfInBounds_toArray, List.set_cons_zero, List.set_cons_succ, i64_w, i32_w]
                rfl
              refine pure_ (i := 1) (N := (some 163)) (v := ?_) (a' := ?_) #[true, true, false, false, false, false, false, false, false, false, false, false, false, false, false, false, false, false, false, false, false, false, false, false, false] rfl rfl (by kernel_rfl) (fun _ _ _ h => h) (Or.inl ⟨by rfl, ?_⟩) ?_ ?_
              rotate_left
              · intro w'
                go_simp
                with_reducible rfl
              rotate_left
              · simp only [Act.put, List.setIfInBounds_toArray, List.set_cons_zero, List.set_cons_succ, i64_w, i32_w]
                rfl
              refine take_ (i := 2) (N := (some 164)) (v := ?_) (a' := ?_) #[true, true, true, false, false, false, false, false, false, false, false, false, false, false, false, false, false, false, false, false, false, false, false, false, false] rfl rfl (by kernel_rfl) (fun _ _ _ h => h) (Or.inl ⟨by rfl, ?_⟩) hHeld ?_ ?_
              rotate_left
              · rintro w' ⟨s0, s1⟩
                have t0 : w'.cell? ⟨w2.heap.size, 0, none⟩ = some (.int .i64 pw) := (blk_cell s0 0).trans rfl
                have t1 : w'.cell? ⟨w2.heap.size, 1, none⟩ = some (.int .i64 pj) := (blk_cell s0 1).trans rfl
                have t2 : w'.cell? ⟨w2.heap.size, 2, none⟩ = some (.int .i64 pr) := (blk_cell s0 2).trans rfl
                have u0 : w'.cell? ⟨b21, 0, none⟩ = some (.int .i64 y0) := (blk_cell s1 0).trans rfl
                have u1 : w'.cell? ⟨b21, 1, none⟩ = some (.int .i64 y1) := (blk_cell s1 1).trans rfl
                have u2 : w'.cell? ⟨b21, 2, none⟩ = some (.int .i64 y2) := (blk_cell s1 2).trans rfl
                have u3 : w'.cell? ⟨b21, 3, none⟩ = some (.int .i64 y3) := (blk_cell s1 3).trans rfl
                have u4 : w'.cell? ⟨b21, 4, none⟩ = some (.int .i64 y4) := (blk_cell s1 4).trans rfl
                go_simp
                with_reducible rfl
              rotate_left
              · simp only [Act.put, List.setIfInBounds_toArray, List.set_cons_zero, List.set_cons_succ, i64_w, i32_w]
                rfl
              refine one_ (i := 3) (N := (some 165)) #[true, true, true, true, false, false, false, false, false, false, false, false, false, false, false, false, false, false, false, false, false, false, false, false, false] rfl rfl (by kernel_rfl) (by decide) (fun K hK => ?_)
              refine goes_ Try.func43 (by kernel_rfl) rfl #[ptr gb, ptr g, .agg #[.int .i64 pw, .int .i64 pj, .int .i64 pr]] (by rfl) rfl rfl (by simp only [List.map_toArray, List.map_cons, List.map_nil]; rfl) ?_
              refine (alike_calls w _ _ gb g _ _ pw pj pr (HL.out.run HU2.out) (HL.out.run HU0.out) (Like.refl _) (wlen HL.out HU2.out)).mono ?_
              rintro e wo ⟨rfl, hb⟩
              refine ⟨_, rfl, ?_⟩
              have hn_ := (hb.block _ (blk_lt HN.out)).trans HN.out
              have hl_ := HL.out.pass hb
              clear HL HN
              have HL := Aside0.mk hl_
              have HN := Aside0.mk hn_
              clear hl_ hn_ hb
              refine hK.out _ _ ⟨HL.out.pb, HN.out⟩ (fun hHeld => ?_)
              clear hK K
              refine norm_ (a' := ?_) ?_ ?_
              rotate_left
              · show Act.put _ (some 165) _ = _
                simp only [Act.put, List.setIfInBounds_toArray, List.set_cons_zero, List.set_cons_succ, i64_w, i32_w]
                rfl
              refine pure_ (i := 4) (N := (some 166)) (v := ?_) (a' := ?_) #[true, true, true, true, true, false, false, false, false, false, false, false, false, false, false, false, false, false, false, false, false, false, false, false, false] rfl rfl (by kernel_rfl) (fun _ _ _ h => h) (Or.inl ⟨by rfl, ?_⟩) ?_ ?_
              rotate_left
              · intro w'
                go_simp
                with_reducible rfl
              rotate_left
              · simp only [Act.put, List.setIfInBounds_toArray, List.set_cons_zero, List.set_cons_succ, i64_w, i32_w]
                rfl
              refine pure_ (i := 5) (N := (some 167)) (v := ?_) (a' := ?_) #[true, true, true, true, true, true, false, false, false, false, false, false, false, false, false, false, false, false, false, false, false, false, false, false, false] rfl rfl (by kernel_rfl) (fun _ _ _ h => h) (Or.inl ⟨by rfl, ?_⟩) ?_ ?_
              rotate_left
              · intro w'
                go_simp
                with_reducible rfl
              rotate_left
              · simp only [Act.put, List.setIfInBounds_toArray, List.set_cons_zero, List.set_cons_succ, i64_w, i32_w]
                rfl
              refine pure_ (i := 7) (N := (some 169)) (v := ?_) (a' := ?_) #[true, true, true, true, true, true, false, true, false, false, false, false, false, false, false, false, false, false, false, false, false, false, false, false, false] rfl rfl (by kernel_rfl) (fun _ _ _ h => h) (Or.inl ⟨by rfl, ?_⟩) ?_ ?_
              rotate_left
              · intro w'
                go_simp
                with_reducible rfl
              rotate_left
              · simp only [Act.put, List.setIfInBounds_toArray, List.set_cons_zero, List.set_cons_succ, i64_w, i32_w]
                rfl
              refine one_ (i := 6) (N := (some 168)) #[true, true, true, true, true, true, true, true, false, false, false, false, false, false, false, false, false, false, false, false, false, false, false, false, false] rfl rfl (by kernel_rfl) (by decide) (fun K hK => ?_)
              refine goes_ Try.func31 (by kernel_rfl) rfl #[ptr gb] (by rfl) rfl rfl (by simp only [List.map_toArray, List.map_cons, List.map_nil]; rfl) ?_
              refine (pk_peak (HL.out.run HU2.out) HPK2.out).mono ?_
              rintro e wx ⟨rfl, hwx⟩
              refine ⟨_, rfl, ?_⟩
              subst hwx
              refine hK.out _ _ ⟨HL.out.pb, HN.out⟩ (fun hHeld => ?_)
              clear hK K
              refine norm_ (a' := ?_) ?_ ?_
              rotate_left
              · show Act.put _ (some 168) _ = _
                simp only [Act.put, List.setIfInBounds_toArray, List.set_cons_zero, List.set_cons_succ, i64_w, i32_w]
                rfl
              refine one_ (i := 8) (N := (some 170)) #[true, true, true, true, true, true, true, true, true, false, false, false, false, false, false, false, false, false, false, false, false, false, false, false, false] rfl rfl (by kernel_rfl) (by decide) (fun K hK => ?_)
              refine goes_ Try.func31 (by kernel_rfl) rfl #[ptr g] (by rfl) rfl rfl (by simp only [List.map_toArray, List.map_cons, List.map_nil]; rfl) ?_
              refine (pk_peak (HL.out.run HU0.out) HPK2.out).mono ?_
              rintro e wx ⟨rfl, hwx⟩
              refine ⟨_, rfl, ?_⟩
              subst hwx
              refine hK.out _ _ ⟨HL.out.pb, HN.out⟩ (fun hHeld => ?_)
              clear hK K
              refine norm_ (a' := ?_) ?_ ?_
              rotate_left
              · show Act.put _ (some 170) _ = _
                simp only [Act.put, List.setIfInBounds_toArray, List.set_cons_zero, List.set_cons_succ, i64_w, i32_w]
                rfl
              refine pure_ (i := 9) (N := (some 171)) (v := ?_) (a' := ?_) #[true, true, true, true, true, true, true, true, true, true, false, false, false, false, false, false, false, false, false, false, false, false, false, false, false] rfl rfl (by kernel_rfl) (fun _ _ _ h => h) (Or.inl ⟨by rfl, ?_⟩) ?_ ?_
              rotate_left
              · intro w'
                go_simp
                with_reducible rfl
              rotate_left
              · simp only [Act.put, List.setIfInBounds_toArray, List.set_cons_zero, List.set_cons_succ, i64_w, i32_w]
                rfl
              refine pure_ (i := 10) (N := (some 172)) (v := ?_) (a' := ?_) #[true, true, true, true, true, true, true, true, true, true, true, false, false, false, false, false, false, false, false, false, false, false, false, false, false] rfl rfl (by kernel_rfl) (fun _ _ _ h => h) (Or.inl ⟨by rfl, ?_⟩) ?_ ?_
              rotate_left
              · intro w'
                go_simp
                with_reducible rfl
              rotate_left
              · simp only [Act.put, List.setIfInBounds_toArray, List.set_cons_zero, List.set_cons_succ, i64_w, i32_w]
                rfl
              refine pure_ (i := 11) (N := (some 173)) (v := ?_) (a' := ?_) #[true, true, true, true, true, true, true, true, true, true, true, true, false, false, false, false, false, false, false, false, false, false, false, false, false] rfl rfl (by kernel_rfl) (fun _ _ _ h => h) (Or.inl ⟨by rfl, ?_⟩) ?_ ?_
              rotate_left
              · intro w'
                go_simp
                with_reducible rfl
              rotate_left
              · simp only [Act.put, List.setIfInBounds_toArray, List.set_cons_zero, List.set_cons_succ, i64_w, i32_w]
                rfl
              refine pure_ (i := 12) (N := (some 174)) (v := ?_) (a' := ?_) #[true, true, true, true, true, true, true, true, true, true, true, true, true, false, false, false, false, false, false, false, false, false, false, false, false] rfl rfl (by kernel_rfl) (fun _ _ _ h => h) (Or.inl ⟨by rfl, ?_⟩) ?_ ?_
              rotate_left
              · intro w'
                go_simp
                with_reducible rfl
              rotate_left
              · simp only [Act.put, List.setIfInBounds_toArray, List.set_cons_zero, List.set_cons_succ, i64_w, i32_w]
                rfl
              refine take_ (i := 14) (N := (some 176)) (v := ?_) (a' := ?_) #[true, true, true, true, true, true, true, true, true, true, true, true, true, false, true, false, false, false, false, false, false, false, false, false, false] rfl rfl (by kernel_rfl) (fun _ _ _ h => h) (Or.inl ⟨by rfl, ?_⟩) hHeld ?_ ?_
              rotate_left
              · rintro w' ⟨s0, s1⟩
                have t0 : w'.cell? ⟨w2.heap.size, 0, none⟩ = some (.int .i64 pw) := (blk_cell s0 0).trans rfl
                have t1 : w'.cell? ⟨w2.heap.size, 1, none⟩ = some (.int .i64 pj) := (blk_cell s0 1).trans rfl
                have t2 : w'.cell? ⟨w2.heap.size, 2, none⟩ = some (.int .i64 pr) := (blk_cell s0 2).trans rfl
                have u0 : w'.cell? ⟨b21, 0, none⟩ = some (.int .i64 y0) := (blk_cell s1 0).trans rfl
                have u1 : w'.cell? ⟨b21, 1, none⟩ = some (.int .i64 y1) := (blk_cell s1 1).trans rfl
                have u2 : w'.cell? ⟨b21, 2, none⟩ = some (.int .i64 y2) := (blk_cell s1 2).trans rfl
                have u3 : w'.cell? ⟨b21, 3, none⟩ = some (.int .i64 y3) := (blk_cell s1 3).trans rfl
                have u4 : w'.cell? ⟨b21, 4, none⟩ = some (.int .i64 y4) := (blk_cell s1 4).trans rfl
                go_simp
                with_reducible rfl
              rotate_left
              · simp only [Act.put, List.setIfInBounds_toArray, List.set_cons_zero, List.set_cons_succ, i64_w, i32_w]
                rfl
              refine one_ (i := 13) (N := (some 175)) #[true, true, true, true, true, true, true, true, true, true, true, true, true, true, true, false, false, false, false, false, false, false, false, false, false] rfl rfl (by kernel_rfl) (by decide) (fun K hK => ?_)
              refine goes_ Try.func32 (by kernel_rfl) rfl #[ptr gd] (by rfl) rfl rfl (by simp only [List.map_toArray, List.map_cons, List.map_nil]; rfl) ?_
              refine (pk_measure (HL.out.run HU4.out) HME.out).mono ?_
              rintro e wp ⟨rfl, hb⟩
              refine ⟨_, rfl, ?_⟩
              have hn_ := (hb.block _ (blk_lt HN.out)).trans HN.out
              have hl_ := HL.out.pass hb
              clear HL HN
              have HL := Aside0.mk hl_
              have HN := Aside0.mk hn_
              clear hl_ hn_ hb
              refine hK.out _ _ ⟨HL.out.pb, HN.out⟩ (fun hHeld => ?_)
              clear hK K
              refine norm_ (a' := ?_) ?_ ?_
              rotate_left
              · show Act.put _ (some 175) _ = _
                simp only [Act.put, List.setIfInBounds_toArray, List.set_cons_zero, List.set_cons_succ, i64_w, i32_w]
                rfl
              refine pure_ (i := 15) (N := (some 177)) (v := ?_) (a' := ?_) #[true, true, true, true, true, true, true, true, true, true, true, true, true, true, true, true, false, false, false, false, false, false, false, false, false] rfl rfl (by kernel_rfl) (fun _ _ _ h => h) (Or.inl ⟨by rfl, ?_⟩) ?_ ?_
              rotate_left
              · intro w'
                go_simp
                with_reducible rfl
              rotate_left
              · simp only [Act.put, List.setIfInBounds_toArray, List.set_cons_zero, List.set_cons_succ, i64_w, i32_w]
                rfl
              refine pure_ (i := 16) (N := (some 178)) (v := ?_) (a' := ?_) #[true, true, true, true, true, true, true, true, true, true, true, true, true, true, true, true, true, false, false, false, false, false, false, false, false] rfl rfl (by kernel_rfl) (fun _ _ _ h => h) (Or.inl ⟨by rfl, ?_⟩) ?_ ?_
              rotate_left
              · intro w'
                go_simp
                with_reducible rfl
              rotate_left
              · simp only [Act.put, List.setIfInBounds_toArray, List.set_cons_zero, List.set_cons_succ, i64_w, i32_w]
                rfl
              refine pure_ (i := 17) (N := (some 179)) (v := ?_) (a' := ?_) #[true, true, true, true, true, true, true, true, true, true, true, true, true, true, true, true, true, true, false, false, false, false, false, false, false] rfl rfl (by kernel_rfl) (fun _ _ _ h => h) (Or.inl ⟨by rfl, ?_⟩) ?_ ?_
              rotate_left
              · intro w'
                go_simp
                with_reducible rfl
              rotate_left
              · simp only [Act.put, List.setIfInBounds_toArray, List.set_cons_zero, List.set_cons_succ, i64_w, i32_w]
                rfl
              refine pure_ (i := 18) (N := (some 180)) (v := ?_) (a' := ?_) #[true, true, true, true, true, true, true, true, true, true, true, true, true, true, true, true, true, true, true, false, false, false, false, false, false] rfl rfl (by kernel_rfl) (fun _ _ _ h => h) (Or.inl ⟨by rfl, ?_⟩) ?_ ?_
              rotate_left
              · intro w'
                go_simp
                with_reducible rfl
              rotate_left
              · simp only [Act.put, List.setIfInBounds_toArray, List.set_cons_zero, List.set_cons_succ, i64_w, i32_w]
                rfl
              refine pure_ (i := 20) (N := (some 182)) (v := ?_) (a' := ?_) #[true, true, true, true, true, true, true, true, true, true, true, true, true, true, true, true, true, true, true, false, true, false, false, false, false] rfl rfl (by kernel_rfl) (fun _ _ _ h => h) (Or.inl ⟨by rfl, ?_⟩) ?_ ?_
              rotate_left
              · intro w'
                go_simp
                with_reducible rfl
              rotate_left
              · simp only [Act.put, List.setIfInBounds_toArray, List.set_cons_zero, List.set_cons_succ, i64_w, i32_w]
                rfl
              refine one_ (i := 19) (N := (some 181)) #[true, true, true, true, true, true, true, true, true, true, true, true, true, true, true, true, true, true, true, true, true, false, false, false, false] rfl rfl (by kernel_rfl) (by decide) (fun K hK => ?_)
              refine goes_ Try.func36 (by kernel_rfl) rfl #[ptr gd] (by rfl) rfl rfl (by simp only [List.map_toArray, List.map_cons, List.map_nil]; rfl) ?_
              refine (pk_picks (HL.out.run HU4.out) HPX.out).mono ?_
              rintro e wx ⟨rfl, hwx⟩
              refine ⟨_, rfl, ?_⟩
              subst hwx
              refine hK.out _ _ ⟨HL.out.pb, HN.out⟩ (fun hHeld => ?_)
              clear hK K
              refine norm_ (a' := ?_) ?_ ?_
              rotate_left
              · show Act.put _ (some 181) _ = _
                simp only [Act.put, List.setIfInBounds_toArray, List.set_cons_zero, List.set_cons_succ, i64_w, i32_w]
                rfl
              refine one_ (i := 21) (N := (some 183)) #[true, true, true, true, true, true, true, true, true, true, true, true, true, true, true, true, true, true, true, true, true, true, false, false, false] rfl rfl (by kernel_rfl) (by decide) (fun K hK => ?_)
              refine goes_ Try.func36 (by kernel_rfl) rfl #[ptr gb] (by rfl) rfl rfl (by simp only [List.map_toArray, List.map_cons, List.map_nil]; rfl) ?_
              refine (pk_picks (HL.out.run HU2.out) HPY.out).mono ?_
              rintro e wx ⟨rfl, hwx⟩
              refine ⟨_, rfl, ?_⟩
              subst hwx
              refine hK.out _ _ ⟨HL.out.pb, HN.out⟩ (fun hHeld => ?_)
              clear hK K
              refine norm_ (a' := ?_) ?_ ?_
              rotate_left
              · show Act.put _ (some 183) _ = _
                simp only [Act.put, List.setIfInBounds_toArray, List.set_cons_zero, List.set_cons_succ, i64_w, i32_w]
                rfl
              refine pure_ (i := 22) (N := (some 184)) (v := ?_) (a' := ?_) #[true, true, true, true, true, true, true, true, true, true, true, true, true, true, true, true, true, true, true, true, true, true, true, false, false] rfl rfl (by kernel_rfl) (fun _ _ _ h => h) (Or.inl ⟨by rfl, ?_⟩) ?_ ?_
              rotate_left
              · intro w'
                go_simp
                with_reducible rfl
              rotate_left
              · simp only [Act.put, List.setIfInBounds_toArray, List.set_cons_zero, List.set_cons_succ, i64_w, i32_w]
                rfl
              refine pure_ (i := 23) (N := (some 185)) (v := ?_) (a' := ?_) #[true, true, true, true, true, true, true, true, true, true, true, true, true, true, true, true, true, true, true, true, true, true, true, true, false] rfl rfl (by kernel_rfl) (fun _ _ _ h => h) (Or.inl ⟨by rfl, ?_⟩) ?_ ?_
              rotate_left
              · intro w'
                go_simp
                with_reducible rfl
              rotate_left
              · simp only [Act.put, List.setIfInBounds_toArray, List.set_cons_zero, List.set_cons_succ, i64_w, i32_w]
                rfl
              refine pure_ (i := 24) (N := (some 4)) (v := ?_) (a' := ?_) #[true, true, true, true, true, true, true, true, true, true, true, true, true, true, true, true, true, true, true, true, true, true, true, true, true] rfl rfl (by kernel_rfl) (fun _ _ _ h => h) (Or.inl ⟨by rfl, ?_⟩) ?_ ?_
              rotate_left
              · intro w'
                go_simp
                with_reducible rfl
              rotate_left
              · simp only [Act.put, List.setIfInBounds_toArray, List.set_cons_zero, List.set_cons_succ, i64_w, i32_w]
                rfl
              refine done_ (by kernel_rfl) ?_
              go_wp2
              go_ret
              exact ⟨rfl, HL.out.fl.bel⟩
end Go.Proofs.Ythcchpbidbbiaaa.Sc
namespace Go.Proofs.Ythcchpbidbbiaaa.schedCopies
open Go.ChangeShapes Go.WideShapes Go.ChangeAt Go.RowKit Go.Joins
open Go.Proofs.YthcchpbidbbiaaaW
set_option linter.unusedVariables false
theorem own : ownKnob Try.prog.godebug = none := by kernel_rfl
theorem laidOut : laidOutB Try.prog = true := by kernel_rfl
set_option maxRecDepth 100000 in
theorem lifted (os : Os) (started : os.Started) (H : Type) (enc : TypeId × Value → H) :
    ReturnsInHanded {} Try.checked os 11 .any (Rows.schedCopiesSpec.pre6 enc Try.prog Try.f11 Rows.schedCopiesRow.domain false) (Rows.schedCopiesSpec.post enc Try.prog Try.f11 false true false false) := by
  refine returnsInHanded_of_change_sized (C := Try.checked) own started (by kernel_rfl) Try.func11
    (ChangeSpec.witness6 (enc := enc) (C := Try.checked) false ⟨#[], #[.agg #[.int .i64 0, .int .i64 0, .int .i64 0, .slice none 0 0, .slice none 0 0, .int .i64 0], .slice none 0 0], []⟩ 8 (by kernel_rfl) (by kernel_rfl) (by kernel_rfl) (by kernel_rfl)) ?_
  intro W base args ds gs before hval0 hW hcnd hsz0 _
  have hval : ∀ (j : Nat) t v, Try.f11.params[j]? = some t → args[j]? = some v → Value.okWide Try.prog W .any base t v := hval0
  have hW' := hW
  obtain ⟨p, q, hA0, hV, rfl, hfz, hnd⟩ := hW
  have hA : DataW.TrodAll enc Try.prog W 0 (fun _ => true) true Try.f11.params.toList args.toList ds p := hA0
  rw [Try.params11] at hA hval
  obtain ⟨v0, vs0, d0, ds0, p0, q0, hargs, rfl, rfl, h0, r0⟩ := trodAll_cons hA
  obtain ⟨v1, vs1, d1, ds1, p1, q1, rfl, rfl, rfl, h1, r1⟩ := trodAll_cons r0
  obtain ⟨rfl, rfl, rfl⟩ := trodAll_nil r1
  obtain rfl : args = #[v0, v1] := by cases args; simp_all
  obtain ⟨rfl, rfl⟩ := trodVars_none hV
  have k0 := h0
  have lt0 : ∀ x ∈ p0, x.block < W.heap.size := by obtain ⟨m, hm⟩ := k0; exact DataW.trod_lt m _ _ _ hm
  have k1 := h1
  have lt1 : ∀ x ∈ p1, x.block < W.heap.size := by obtain ⟨m, hm⟩ := k1; exact DataW.trod_lt m _ _ _ hm
  obtain ⟨X, rfl, hX, hXL⟩ := Sc.work_open2 (fun _ => rfl) (hval 0 37 v0 rfl rfl) h0
  obtain ⟨a1, len1, cap1, rfl⟩ := okWide_slice Try.underlying24 (hval 1 24 v1 rfl rfl)
  obtain ⟨A1, l1, c1, e1, hC1, hc1, hm1⟩ : ∃ A l c', (Value.slice a1 len1 cap1) = .slice A l.length c' ∧ PrintWords.Kd.C (PrintWords.Kd.int .i64) W A l.length l ∧ l.length ≤ c' ∧ l.length ≤ maxLen := by
    obtain ⟨fuel, hf⟩ := h1
    exact Sc.ints_open2 (fun _ => rfl) hf
  obtain ⟨ea1, el1, ec1⟩ := Value.slice.inj e1
  subst ea1 el1 ec1
  clear hA0 hval0 hsz0
  refine (Sc.copies_walk X W hX hXL a1 l1 cap1 hC1 hc1 hm1).mono fun e W' ⟨he, bel⟩ => ?_
  subst he
  exact ⟨_, rfl, _, _, _, [], _, [], hW', trodAll_mk1 (shut_bool Try.underlying4 _), (trodAll_cons_mk (Below.trod laidOut (by kernel_rfl) (of_decide_eq_true (by kernel_rfl)) k0 bel lt0) (trodAll_cons_mk (Below.trod laidOut (by kernel_rfl) (of_decide_eq_true (by kernel_rfl)) k1 bel lt1) trodAll_mk0)), rfl, bel.frame _, fun h => by cases h⟩
theorem over : Rows.schedCopiesRow.holds Try.pinned (OpenSpec.ofChange Rows.schedCopiesSpec) :=
  OpenClaim.holds_of_wide 11 Try.f11 rfl rfl rfl rfl rfl rfl rfl ⟨rfl, rfl, rfl, rfl, rfl⟩ rfl rfl rfl rfl rfl (by kernel_rfl) Try.func11 (by kernel_rfl)
    (of_decide_eq_true (by kernel_rfl)) (by unfold Func.isWrapper; first | (rw [if_pos (by decide +kernel)]; kernel_rfl) | (rw [if_neg (by decide +kernel)]; exact ⟨rfl, rfl⟩))
    (fun os started H enc _ => lifted os started H enc)
theorem proved : Rows.SchedCopiesSaid := over
#print axioms proved
end Go.Proofs.Ythcchpbidbbiaaa.schedCopies
namespace Go.Proofs.Ythcchpbidbbiaaa
/-- The row, under a short name, for the claim. -/
theorem schedCopies_holds : Rows.SchedCopiesSaid := schedCopies.proved
end Go.Proofs.Ythcchpbidbbiaaa
