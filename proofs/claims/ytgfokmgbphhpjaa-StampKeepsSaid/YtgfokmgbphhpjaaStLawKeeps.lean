/- StampKeeps: the law's walk. -/
import Derived.Test.YtgfokmgbphhpjaaStKeepsP
import Derived.Deep.QuietTactic
import Derived.BigQuiet
namespace Go.Proofs.Ytgfokmgbphhpjaa.St
open Go.RowKit Go.Proofs.YtgfokmgbphhpjaaW.PrintWords Go.Proofs.YtgfokmgbphhpjaaW.PrintLast Go.Proofs.YtgfokmgbphhpjaaW.PrintMore Go.Proofs.Ytgfokmgbphhpjaa.PStampKeeps
open Go.Maps Go.WideElems Go.MapKept Go.ChangeMaps Go.ChangeShapes
set_option linter.unusedVariables false
set_option linter.unusedSimpArgs false
theorem below_drewN (w : World) (n : Nat) : Below w.heap.size w (w.drewN n) := ⟨rfl, rfl, rfl, Nat.le_refl _, fun _ _ => rfl⟩
theorem pick65 (a : Int) : ∃ r : Nat, organonlaw11_pick.f a 65 = some (r : Int) ∧ r ≤ 64 := by
  unfold organonlaw11_pick.f
  rw [if_neg (by decide)]
  have h1 := Int.tmod_lt_of_pos a (show (0 : Int) < 65 by decide)
  have h2 : -65 < Int.tmod a 65 := by
    have := Int.lt_tmod_of_pos a (show (0 : Int) < 65 by decide)
    omega
  by_cases h : Int.tmod a 65 < 0
  · rw [if_pos h, Base.wrap64_id (by omega) (by omega)]
    exact ⟨(Int.tmod a 65 + 65).toNat, by congr 1; omega, by omega⟩
  · rw [if_neg h]
    exact ⟨(Int.tmod a 65).toNat, by congr 1; omega, by omega⟩
set_option maxHeartbeats 8000000 in
set_option maxRecDepth 1000000 in
theorem keeps_walk (W0 : World) (bits0 : Int) (A : Option Addr) (c : Nat) (rows : List (List Int)) (hC : Kd.C (Kd.slice 5 (Kd.int .u8)) W0 A rows.length rows) (hc : rows.length ≤ c) (hlen : rows.length ≤ 5864062014634) (hby : ∀ r ∈ rows, r.length ≤ 140737488351232 ∧ ∀ x ∈ r, 0 ≤ x ∧ x < 256) :
    Calls Try.prog 5 #[.int .i64 bits0, .slice A rows.length c] W0 fun e w' => e = .returned (.bool true) ∧ Below W0.heap.size W0 w' := by
  have HC := Aside0.mk hC
  have HCC := Aside0.mk hc
  have HLEN := Aside0.mk hlen
  have HBY := Aside0.mk hby
  obtain ⟨bits, hbp, hb64⟩ := pick65 bits0
  have HP := Aside0.mk hbp
  have HB64 := Aside0.mk hb64
  clear hC hc hlen hby hbp hb64
  go_enter Try.func5, Try.ntmps5
  go_wp2_with fail
  refine (awake_calls W0).mono ?_
  rintro e w1 ⟨rfl, hb⟩
  have HW := Aside0.mk hb
  clear hb
  go_wp2_with fail
  refine (organonlaw11_pick.calls bits0 65 bits w1 HP.out).mono ?_
  rintro e w2 ⟨rfl, hd⟩
  have HW2 := Aside0.mk (HW.out.trans (hd.below.mono HW.out.size))
  clear hd HW
  go_wp2_with fail
  refine (one_new HW2.out bits 20000 HB64.out (by decide) (by decide)).mono ?_
  rintro e w3 ⟨p1, F1, rfl, hH, hb⟩
  have HH := Aside0.mk hH
  have HW3 := Aside0.mk hb
  clear hH hb HW2
  go_wp2_with fail
  refine (two_new HH.out HW3.out 0 20000 (by decide) (by decide) (by decide)).mono ?_
  rintro e w4 ⟨rfl, hT⟩
  obtain ⟨p2, hp2⟩ : ∃ p2, w3.heap.size + 1 = p2 := ⟨_, rfl⟩
  rw [hp2] at hT ⊢
  have HT := Aside0.mk hT
  have HK := Aside0.mk (show KR ⟨bits, 20000, [], 0, 0⟩ ⟨0, 20000, [], 0, 0⟩ 0 from ⟨rfl, rfl, rfl, rfl, List.nodup_nil, Nat.le_refl _, Nat.zero_le _, Nat.zero_le _⟩)
  clear hT hp2 HH HW3
  obtain ⟨T0, hT0⟩ : ∃ T0 : Tab, (⟨bits, 20000, [], 0, 0⟩ : Tab) = T0 := ⟨_, rfl⟩
  obtain ⟨Z0, hZ0⟩ : ∃ Z0 : Tab, (⟨0, 20000, [], 0, 0⟩ : Tab) = Z0 := ⟨_, rfl⟩
  rw [hT0, hZ0] at HT HK
  clear hT0 hZ0
  go_wp2
  go_loopw [10] (fun i wr => ∃ (k : Nat) (T Z : Tab), i = .int .i64 k ∧ k ≤ rows.length ∧ k ≤ 20000 ∧ Two W0 wr p1 p2 T Z ∧ KR T Z k) (fun i _ => rows.length - (intOf i).toNat)
  case atStart => exact ⟨0, T0, Z0, rfl, Nat.zero_le _, Nat.zero_le _, HT.out, HK.out⟩
  case round =>
    obtain ⟨k, T, Z, rfl, hk, hk2, hT, hK⟩ := hrel
    have HT := Aside0.mk hT
    have HK := Aside0.mk hK
    clear hT hK
    by_cases hlt : k < rows.length
    · by_cases hlt2 : k < 20000
      · have p0 : decide ((k : Int) < (rows.length : Int)) = true := decide_eq_true (by omega)
        have p1' := eq_true (show (k : Int) < (rows.length : Int) by omega)
        have p2' : decide ((k : Int) < 20000) = true := decide_eq_true (by omega)
        obtain ⟨ad, A0, c0, e0, hcell, hle, hC0⟩ := at_L6 HC.out k (Int.natCast_nonneg _) (by omega)
        subst e0
        have hby := HBY.out (rd_L6 rows k) (by unfold rd_L6; rw [List.getD_eq_getElem?_getD, Int.toNat_natCast, List.getElem?_eq_getElem (by omega)]; exact List.getElem_mem _)
        rw [Int.toNat_natCast] at hcell
        obtain ⟨b, hb⟩ : ∃ b, rd_L6 rows k = b := ⟨_, rfl⟩
        rw [hb] at hcell hle hC0 hby
        have HCELL := Aside0.mk hcell
        have HLE := Aside0.mk hle
        have HC0 := Aside0.mk hC0
        have HBB := Aside0.mk hby
        clear hcell hle hC0 hby hb
        obtain ⟨T1, e1⟩ : ∃ T1, T.after b = T1 := ⟨_, rfl⟩
        obtain ⟨T2, e2⟩ : ∃ T2, T1.put b = T2 := ⟨_, rfl⟩
        obtain ⟨T3, e3⟩ : ∃ T3, T2.after b = T3 := ⟨_, rfl⟩
        obtain ⟨Z1, e4⟩ : ∃ Z1, Z.put b = Z1 := ⟨_, rfl⟩
        obtain ⟨hK1, l1, l2, g1, g2, r3, x, x1, x2, x3, x4, x5, x6, hx⟩ := keeps_step HK.out hlt2 e1 e2 e3 e4
        have HK1 := Aside0.mk hK1
        have L0 := Aside0.mk (show T.looked < 4611686018427387904 from by have := HK.out.tl; omega)
        have L1 := Aside0.mk (show T1.looked < 4611686018427387904 from by omega)
        have L2 := Aside0.mk (show T2.looked < 4611686018427387904 from by omega)
        have L3 := Aside0.mk (show Z.looked < 4611686018427387904 from by have := HK.out.zl; omega)
        have G1 := Aside0.mk g1
        have G2 := Aside0.mk g2
        have X1 := Aside0.mk x1
        have X2 := Aside0.mk x2
        have X3 := Aside0.mk x3
        have X4 := Aside0.mk x4
        have X5 := Aside0.mk x5
        have X6 := Aside0.mk x6
        have HX := Aside0.mk hx
        have E1 := Aside0.mk e1
        have E2 := Aside0.mk e2
        have E3 := Aside0.mk e3
        have E4 := Aside0.mk e4
        clear hK1 l1 l2 g1 g2 r3 x1 x2 x3 x4 x5 x6 hx e1 e2 e3 e4
        go_wp2_with fail
        refine (two_len HT.out).mono ?_
        rintro e w5 ⟨rfl, rfl⟩
        have hc5 := cell_old HCELL.out HT.out.below
        go_wp2_with fail
        refine (two_find A0 c0 b HC0.out HLE.out HBB.out.1 HBB.out.2 HT.out L0.out).mono ?_
        rintro e w6 ⟨rfl, hT6⟩
        rw [E1.out] at hT6
        have HT6 := Aside0.mk hT6
        clear hT6 hc5 HT
        have hc6 := cell_old HCELL.out HT6.out.below
        go_wp2_with fail
        refine (two_put A0 c0 b HC0.out HLE.out HBB.out.1 HBB.out.2 HT6.out L1.out).mono ?_
        rintro e w7 ⟨rfl, hT7⟩
        rw [E2.out] at hT7
        rw [X1.out, G1.out]
        have HT7 := Aside0.mk hT7
        clear hT7 hc6 HT6
        have hc7 := cell_old HCELL.out HT7.out.below
        go_wp2_with fail
        refine (two_put A0 c0 b HC0.out HLE.out HBB.out.1 HBB.out.2 HT7.out.swap L3.out).mono ?_
        rintro e w8 ⟨rfl, hT8⟩
        rw [E4.out] at hT8
        rw [X2.out, G2.out]
        have HT8 := Aside0.mk hT8.swap
        clear hT8 hc7 HT7
        have hc8 := cell_old HCELL.out HT8.out.below
        go_wp2_with fail
        refine (two_find A0 c0 b HC0.out HLE.out HBB.out.1 HBB.out.2 HT8.out L2.out).mono ?_
        rintro e w9 ⟨rfl, hT9⟩
        rw [E3.out] at hT9
        rw [X3.out, Option.getD_some, Option.isSome_some]
        have HT9 := Aside0.mk hT9
        clear hT9 hc8 HT8
        go_wp2_with fail
        refine (two_get HT9.out x X4.out X5.out).mono ?_
        rintro e w10 ⟨A5, rfl, hB5, hT10⟩
        rw [X6.out] at hB5 ⊢
        have HT10 := Aside0.mk hT10
        have HL10 := Aside0.mk (fun n => two_len (HT10.out.of_below (below_drewN w10 n)))
        have hs1 := fun n => Kd.C_string (c := b.length) Try.underlying27 Try.underlying5 Try.underlying9 (Kd.C_drewN hB5 n)
        have hs2 := fun n => Kd.C_string (c := c0) Try.underlying27 Try.underlying5 Try.underlying9 (Kd.C_drewN (Kd.C_below HC0.out HT10.out.below) n)
        have hc10 := cell_old HCELL.out HT10.out.below
        clear hT10 hB5 HT9
        obtain ⟨s, hs⟩ : ∃ s, strOfNums b = s := ⟨_, rfl⟩
        simp only [hs] at hs1 hs2
        clear hs
        have qs : (s.toList == s.toList) = true := beq_self_eq_true _
        have qs1 : (s.toList != s.toList) = false := by rw [bne, qs]; rfl
        have tp : decide ((k : Int) < 20000) = true := decide_eq_true (by omega)
        have HKB := Aside0.mk hlt2
        obtain ⟨n3, hn3⟩ : ∃ n3, T3.rows.length = n3 := ⟨_, rfl⟩
        obtain ⟨n0, hn0⟩ : ∃ n0, T.rows.length = n0 := ⟨_, rfl⟩
        have hn0b : n0 ≤ k := by have := HK.out.len; omega
        have hx0 := X4.out
        have hx := HX.out
        rw [hn3, hn0] at hx
        rw [hn3] at HL10
        rw [hn0]
        rcases hx with ⟨f, hxn, hl⟩ | ⟨f, hxn, hl⟩
        · rw [f, Option.getD_some, Option.isSome_some]
          have q1 : decide (x < (n0 : Int)) = true := decide_eq_true hxn
          clear hxn
          subst hl
          go_wp2_with fail
          simp only [List.append_eq, List.cons_append, List.nil_append]
          go_quiet (first | (go_at_call 22; refine Calls.quiet_of_same (HL10.out _)))
          go_wp2
          go_roundw
          case rel => exact ⟨k + 1, T3, Z1, by go_num, by omega, by omega, HT10.out.of_below (below_drewN w10 _), HK1.out⟩
          case measure => simp [intOf]; omega
        · rw [f, Option.getD_none, Option.isSome_none]
          subst hxn
          have q1 : decide ((n0 : Int) < (n0 : Int)) = false := decide_eq_false (by omega)
          subst hl
          go_wp2_with fail
          simp only [List.append_eq, List.cons_append, List.nil_append]
          go_quiet (first | (go_at_call 22; refine Calls.quiet_of_same (HL10.out _)))
          go_wp2
          go_roundw
          case rel => exact ⟨k + 1, T3, Z1, by go_num, by omega, by omega, HT10.out.of_below (below_drewN w10 _), HK1.out⟩
          case measure => simp [intOf]; omega
      · have p0 : decide ((k : Int) < (rows.length : Int)) = true := decide_eq_true (by omega)
        have p2' : decide ((k : Int) < 20000) = false := decide_eq_false (by omega)
        have HF := Aside0.mk HT.out
        have HRW := Aside0.mk HK.out.rows
        have HZB := Aside0.mk HK.out.zb
        have HTL := Aside0.mk (show T.rows.length ≤ 20000 from by have := HK.out.len; omega)
        obtain ⟨n0, hn0⟩ : ∃ n0, T.rows.length = n0 := ⟨_, rfl⟩
        have hn0b : n0 ≤ 20000 := by have := HTL.out; omega
        have hz0 : Z.rows.length = n0 := by rw [← HRW.out, hn0]
        go_wp2_with fail
        refine (two_len HF.out).mono ?_
        rintro e w5 ⟨rfl, rfl⟩
        rw [hn0]
        go_wp2_with fail
        refine (two_not HF.out (n0 : Int) (Or.inr (by omega))).mono ?_
        rintro e w6 ⟨rfl, rfl⟩
        go_wp2_with fail
        refine (two_not HF.out (-1) (Or.inl (by decide))).mono ?_
        rintro e w7 ⟨rfl, rfl⟩
        go_wp2_with fail
        refine (two_crowd HF.out.swap).mono ?_
        rintro e w8 ⟨cr, rfl, hcr, hT8⟩
        obtain rfl : cr = n0 := by rw [crowd_zero HZB.out hcr]; exact hz0
        have HG := Aside0.mk hT8.swap
        clear hT8
        go_wp2_with fail
        refine (two_len HG.out).mono ?_
        rintro e w9 ⟨rfl, rfl⟩
        rw [hn0]
        go_wp2_with fail
        refine (two_len HG.out.swap).mono ?_
        rintro e w10 ⟨rfl, rfl⟩
        rw [hz0]
        go_wp2_with fail
        refine (two_len HG.out).mono ?_
        rintro e w11 ⟨rfl, rfl⟩
        rw [hn0]
        go_wp2
        go_ret
        exact ⟨rfl, HG.out.below⟩
    · have p0 : decide ((k : Int) < (rows.length : Int)) = false := decide_eq_false (by omega)
      have HF := Aside0.mk HT.out
      have HRW := Aside0.mk HK.out.rows
      have HZB := Aside0.mk HK.out.zb
      have HTL := Aside0.mk (show T.rows.length ≤ 20000 from by have := HK.out.len; omega)
      obtain ⟨n0, hn0⟩ : ∃ n0, T.rows.length = n0 := ⟨_, rfl⟩
      have hn0b : n0 ≤ 20000 := by have := HTL.out; omega
      have hz0 : Z.rows.length = n0 := by rw [← HRW.out, hn0]
      go_wp2_with fail
      refine (two_len HF.out).mono ?_
      rintro e w5 ⟨rfl, rfl⟩
      rw [hn0]
      go_wp2_with fail
      refine (two_not HF.out (n0 : Int) (Or.inr (by omega))).mono ?_
      rintro e w6 ⟨rfl, rfl⟩
      go_wp2_with fail
      refine (two_not HF.out (-1) (Or.inl (by decide))).mono ?_
      rintro e w7 ⟨rfl, rfl⟩
      go_wp2_with fail
      refine (two_crowd HF.out.swap).mono ?_
      rintro e w8 ⟨cr, rfl, hcr, hT8⟩
      obtain rfl : cr = n0 := by rw [crowd_zero HZB.out hcr]; exact hz0
      have HG := Aside0.mk hT8.swap
      clear hT8
      go_wp2_with fail
      refine (two_len HG.out).mono ?_
      rintro e w9 ⟨rfl, rfl⟩
      rw [hn0]
      go_wp2_with fail
      refine (two_len HG.out.swap).mono ?_
      rintro e w10 ⟨rfl, rfl⟩
      rw [hz0]
      go_wp2_with fail
      refine (two_len HG.out).mono ?_
      rintro e w11 ⟨rfl, rfl⟩
      rw [hn0]
      go_wp2
      go_ret
      exact ⟨rfl, HG.out.below⟩
end Go.Proofs.Ytgfokmgbphhpjaa.St
