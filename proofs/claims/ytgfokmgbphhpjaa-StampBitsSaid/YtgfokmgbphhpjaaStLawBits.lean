/- StampBits: the law's walk. -/
import Derived.Test.YtgfokmgbphhpjaaStBitsP
import Derived.Test.YtgfokmgbphhpjaaStKeepsP
namespace Go.Proofs.Ytgfokmgbphhpjaa.St
open Go.RowKit Go.Proofs.YtgfokmgbphhpjaaW.PrintWords Go.Proofs.YtgfokmgbphhpjaaW.PrintLast Go.Proofs.YtgfokmgbphhpjaaW.PrintMore Go.Proofs.Ytgfokmgbphhpjaa.PStampKeeps
open Go.Maps Go.WideElems Go.MapKept Go.ChangeMaps Go.ChangeShapes
set_option linter.unusedVariables false
set_option linter.unusedSimpArgs false
theorem pick_of (a : Int) (n : Nat) (h0 : 0 < n) (h1 : n ≤ 65) : ∃ r : Nat, organonlaw11_pick.f a n = some (r : Int) ∧ r < n := by
  unfold organonlaw11_pick.f
  rw [if_neg (by omega)]
  have h1 := Int.tmod_lt_of_pos a (show (0 : Int) < n by omega)
  have h2 : -(n : Int) < Int.tmod a n := by
    have := Int.lt_tmod_of_pos a (show (0 : Int) < n by omega)
    omega
  by_cases h : Int.tmod a n < 0
  · rw [if_pos h, Base.wrap64_id (by omega) (by omega)]
    exact ⟨(Int.tmod a n + n).toNat, by congr 1; omega, by omega⟩
  · rw [if_neg h]
    exact ⟨(Int.tmod a n).toNat, by congr 1; omega, by omega⟩
theorem two_same {W0 w : World} {p1 p2 : Nat} {T Z : Tab} (h : Two W0 w p1 p2 T Z) : Z.same ≤ Z.looked := by
  obtain ⟨F1, F2, h1, h2, h3, h4⟩ := h
  exact h2.2.2
set_option maxHeartbeats 8000000 in
set_option maxRecDepth 1000000 in
theorem bits_walk (W0 : World) (bits0 more0 : Int) (A : Option Addr) (c : Nat) (rows : List (List Int)) (hC : Kd.C (Kd.slice 5 (Kd.int .u8)) W0 A rows.length rows) (hc : rows.length ≤ c) (hlen : rows.length ≤ 5864062014634) (hby : ∀ r ∈ rows, r.length ≤ 140737488351232 ∧ ∀ x ∈ r, 0 ≤ x ∧ x < 256) :
    Calls Try.prog 4 #[.int .i64 bits0, .int .i64 more0, .slice A rows.length c] W0 fun e w' => e = .returned (.bool true) ∧ Below W0.heap.size W0 w' := by
  have HC := Aside0.mk hC
  have HCC := Aside0.mk hc
  have HLEN := Aside0.mk hlen
  have HBY := Aside0.mk hby
  obtain ⟨bits, hbp, hb64⟩ := pick_of bits0 65 (by decide) (by decide)
  obtain ⟨add, hap, hadd⟩ := pick_of more0 (65 - bits) (by omega) (by omega)
  have HP := Aside0.mk hbp
  have HQ := Aside0.mk hap
  have hq : (65 : Int) - (bits : Int) = ((65 - bits : Nat) : Int) := by omega
  obtain ⟨more, hmore⟩ : ∃ more : Nat, bits + add = more := ⟨_, rfl⟩
  have hm : (bits : Int) + (add : Int) = (more : Int) := by omega
  have hm64 : more ≤ 64 := by omega
  have HB64 := Aside0.mk (show bits ≤ 64 by omega)
  have HBM := Aside0.mk (show bits ≤ more by omega)
  have HQQ := Aside0.mk hq
  have HM := Aside0.mk hm
  have hw1 : wrap64 ((65 : Int) - (bits : Int)) = ((65 - bits : Nat) : Int) := by rw [Base.wrap64_id (by omega) (by omega)]; exact hq
  have hw2 : wrap64 ((bits : Int) + (add : Int)) = (more : Int) := by rw [Base.wrap64_id (by omega) (by omega)]; exact hm
  have HW1 := Aside0.mk hw1
  have HW2 := Aside0.mk hw2
  clear hC hc hlen hby hbp hb64 hap hadd hmore hq hm hw1 hw2
  obtain ⟨gap, hgap⟩ : ∃ gap : Int, ((65 - bits : Nat) : Int) = gap := ⟨_, rfl⟩
  rw [hgap] at HQ HQQ HW1
  clear hgap
  go_enter Try.func4, Try.ntmps4
  go_wp2_with fail
  refine (awake_calls W0).mono ?_
  rintro e w1 ⟨rfl, hb⟩
  have HW := Aside0.mk hb
  clear hb
  go_wp2_with fail
  refine (organonlaw11_pick.calls bits0 65 bits w1 HP.out).mono ?_
  rintro e w2 ⟨rfl, hd⟩
  have HV2 := Aside0.mk (HW.out.trans (hd.below.mono HW.out.size))
  clear hd HW
  go_wp2_with fail
  rw [HW1.out]
  refine (organonlaw11_pick.calls more0 gap add w2 HQ.out).mono ?_
  rintro e w3 ⟨rfl, hd⟩
  have HV3 := Aside0.mk (HV2.out.trans (hd.below.mono HV2.out.size))
  clear hd HV2
  go_wp2_with fail
  rw [HW2.out]
  refine (one_new HV3.out bits 200 HB64.out (by decide) (by decide)).mono ?_
  rintro e w4 ⟨p1, F1, rfl, hH, hb⟩
  have HH := Aside0.mk hH
  have HV4 := Aside0.mk hb
  clear hH hb HV3
  go_wp2_with fail
  refine (two_new HH.out HV4.out more 200 hm64 (by decide) (by decide)).mono ?_
  rintro e w5 ⟨rfl, hT⟩
  obtain ⟨p2, hp2⟩ : ∃ p2, w4.heap.size + 1 = p2 := ⟨_, rfl⟩
  rw [hp2] at hT ⊢
  have HT := Aside0.mk hT
  have HK := Aside0.mk (show BR ⟨bits, 200, [], 0, 0⟩ ⟨more, 200, [], 0, 0⟩ 0 from ⟨rfl, rfl, HBM.out, hm64, rfl, List.nodup_nil, Nat.zero_le _, Nat.zero_le _, Nat.le_refl _, rfl⟩)
  clear hT hp2 HH HV4
  obtain ⟨T0, hT0⟩ : ∃ T0 : Tab, (⟨bits, 200, [], 0, 0⟩ : Tab) = T0 := ⟨_, rfl⟩
  obtain ⟨Z0, hZ0⟩ : ∃ Z0 : Tab, (⟨more, 200, [], 0, 0⟩ : Tab) = Z0 := ⟨_, rfl⟩
  rw [hT0, hZ0] at HT HK
  clear hT0 hZ0
  go_wp2
  go_loopw [12] (fun i wr => ∃ (k : Nat) (T Z : Tab), i = .int .i64 k ∧ k ≤ rows.length ∧ Two W0 wr p1 p2 T Z ∧ BR T Z k) (fun i _ => rows.length - (intOf i).toNat)
  case atStart => exact ⟨0, T0, Z0, rfl, Nat.zero_le _, HT.out, HK.out⟩
  case round =>
    obtain ⟨k, T, Z, rfl, hk, hT, hK⟩ := hrel
    have HT := Aside0.mk hT
    have HK := Aside0.mk hK
    clear hT hK
    have hlen := HLEN.out
    by_cases hlt : k < rows.length
    · have p0 : decide ((k : Int) < (rows.length : Int)) = true := decide_eq_true (by omega)
      have p1' := eq_true (show (k : Int) < (rows.length : Int) by omega)
      obtain ⟨ad, A0, c0, e0, hcell, hle, hC0⟩ := at_L6 HC.out k (Int.natCast_nonneg _) (by omega)
      subst e0
      have hby := HBY.out (rd_L6 rows k) (by unfold rd_L6; rw [List.getD_eq_getElem?_getD, Int.toNat_natCast, List.getElem?_eq_getElem (by omega)]; exact List.getElem_mem _)
      rw [Int.toNat_natCast] at hcell
      obtain ⟨b, hb⟩ : ∃ b, rd_L6 rows k = b := ⟨_, rfl⟩
      rw [hb] at hcell hle hC0 hby
      have HCELL := Aside0.mk hcell
      have HLE := Aside0.mk hle
      have HC0 := Aside0.mk hC0
      have HBB := Aside0.mk hby
      have HL0 := Aside0.mk (show T.looked < 4611686018427387904 from by have := HK.out.tl; omega)
      have HL1 := Aside0.mk (show Z.looked < 4611686018427387904 from by have := HK.out.zl; have := HK.out.tl; omega)
      clear hcell hle hC0 hby hb
      have hc5 := cell_old HCELL.out HT.out.below
      by_cases h3 : k % 3 = 2
      · obtain ⟨T1, e1⟩ : ∃ T1, T.after b = T1 := ⟨_, rfl⟩
        obtain ⟨Z1, e2⟩ : ∃ Z1, Z.after b = Z1 := ⟨_, rfl⟩
        obtain ⟨hK1, hf⟩ := bits_after HK.out b
        rw [e1, e2] at hK1
        have HK1 := Aside0.mk hK1
        have HF := Aside0.mk hf
        have E1 := Aside0.mk e1
        have E2 := Aside0.mk e2
        clear hK1 hf e1 e2
        go_wp2_with fail
        refine (two_find A0 c0 b HC0.out HLE.out HBB.out.1 HBB.out.2 HT.out HL0.out).mono ?_
        rintro e w6 ⟨rfl, hT6⟩
        rw [E1.out] at hT6
        rw [HF.out]
        have HT6 := Aside0.mk hT6
        clear hT6 hc5 HT
        have hc6 := cell_old HCELL.out HT6.out.below
        obtain ⟨fn, hfn⟩ : ∃ fn, (Z.find b).getD 0 = fn := ⟨_, rfl⟩
        obtain ⟨fb, hfb⟩ : ∃ fb, (Z.find b).isSome = fb := ⟨_, rfl⟩
        have HFN := Aside0.mk hfn
        have HFB := Aside0.mk hfb
        rw [hfn, hfb]
        clear hfn hfb
        have q0 : (fb == fb) = true := by simp
        have q1 : (fb != fb) = false := by simp
        go_wp2_with fail
        refine (two_find A0 c0 b HC0.out HLE.out HBB.out.1 HBB.out.2 HT6.out.swap HL1.out).mono ?_
        rintro e w7 ⟨rfl, hT7⟩
        rw [E2.out] at hT7
        rw [HFN.out, HFB.out]
        have HT7 := Aside0.mk hT7.swap
        clear hT7 hc6 HT6
        go_wp2
        go_roundw
        case rel => exact ⟨k + 1, T1, Z1, by go_num, by omega, HT7.out, HK1.out⟩
        case measure => simp [intOf]; omega
      · obtain ⟨T1, e1⟩ : ∃ T1, T.put b = T1 := ⟨_, rfl⟩
        obtain ⟨Z1, e2⟩ : ∃ Z1, Z.put b = Z1 := ⟨_, rfl⟩
        obtain ⟨hK1, hn, he, hf⟩ := bits_put HK.out b
        rw [e1, e2] at hK1
        rw [e1] at hf
        have HK1 := Aside0.mk hK1
        have HN := Aside0.mk hn
        have HE := Aside0.mk he
        have HF := Aside0.mk hf
        have E1 := Aside0.mk e1
        have E2 := Aside0.mk e2
        clear hK1 hn he hf e1 e2
        go_wp2_with fail
        refine (two_put A0 c0 b HC0.out HLE.out HBB.out.1 HBB.out.2 HT.out HL0.out).mono ?_
        rintro e w6 ⟨rfl, hT6⟩
        rw [E1.out] at hT6
        rw [HN.out]
        have HT6 := Aside0.mk hT6
        clear hT6 hc5 HT
        have hc6 := cell_old HCELL.out HT6.out.below
        obtain ⟨pn, hpn⟩ : ∃ pn, Z.putN b = pn := ⟨_, rfl⟩
        have HPN := Aside0.mk hpn
        rw [hpn]
        clear hpn
        rcases HF.out with hf | ⟨hf, hl⟩
        · have HE1 := Aside0.mk (HE.out.symm.trans hf)
          rw [hf]
          clear hf
          go_wp2_with fail
          refine (two_put A0 c0 b HC0.out HLE.out HBB.out.1 HBB.out.2 HT6.out.swap HL1.out).mono ?_
          rintro e w7 ⟨rfl, hT7⟩
          rw [E2.out] at hT7
          rw [HPN.out, HE1.out]
          have HT7 := Aside0.mk hT7.swap
          clear hT7 hc6 HT6
          go_wp2
          go_roundw
          case rel => exact ⟨k + 1, T1, Z1, by go_num, by omega, HT7.out, HK1.out⟩
          case measure => simp [intOf]; omega
        · have HE1 := Aside0.mk (HE.out.symm.trans hf)
          have HL := Aside0.mk hl
          rw [hf]
          clear hf hl
          go_wp2_with fail
          refine (two_put A0 c0 b HC0.out HLE.out HBB.out.1 HBB.out.2 HT6.out.swap HL1.out).mono ?_
          rintro e w7 ⟨rfl, hT7⟩
          rw [E2.out] at hT7
          rw [HPN.out, HE1.out]
          have HT7 := Aside0.mk hT7.swap
          clear hT7 hc6 HT6
          go_wp2_with fail
          refine (two_len HT7.out).mono ?_
          rintro e w8 ⟨rfl, rfl⟩
          rw [HL.out]
          go_wp2
          go_roundw
          case rel => exact ⟨k + 1, T1, Z1, by go_num, by omega, HT7.out, HK1.out⟩
          case measure => simp [intOf]; omega
    · have p0 : decide ((k : Int) < (rows.length : Int)) = false := decide_eq_false (by omega)
      have HF := Aside0.mk HT.out
      have HR := Aside0.mk (show T.rows.length = Z.rows.length from by rw [HK.out.rows])
      have HTB := Aside0.mk HK.out
      obtain ⟨n0, hn0⟩ : ∃ n0, T.rows.length = n0 := ⟨_, rfl⟩
      have HN0 := Aside0.mk hn0
      clear hn0
      obtain ⟨la, hla⟩ : ∃ la, T.looked = la := ⟨_, rfl⟩
      obtain ⟨lb, hlb⟩ : ∃ lb, Z.looked = lb := ⟨_, rfl⟩
      obtain ⟨sa, hsa⟩ : ∃ sa, T.same = sa := ⟨_, rfl⟩
      have HLA := Aside0.mk hla
      have HLB := Aside0.mk hlb
      have HSA := Aside0.mk hsa
      have HSB := Aside0.mk (show Z.same = sa from by rw [← HK.out.same]; exact hsa)
      have hx1 : lb ≤ la := by have := HK.out.zl; omega
      have hx2 : sa ≤ lb := by have := two_same HT.out; have := HSB.out; omega
      clear hla hlb hsa
      go_wp2_with fail
      refine (two_looks HF.out).mono ?_
      rintro e w5 ⟨rfl, hT5⟩
      rw [HLA.out, HSA.out]
      have HF := Aside0.mk hT5
      clear hT5
      go_wp2_with fail
      refine (two_looks HF.out.swap).mono ?_
      rintro e w6 ⟨rfl, hT6⟩
      rw [HLB.out, HSB.out]
      have HF := Aside0.mk hT6.swap
      clear hT6
      go_wp2_with fail
      refine (two_len HF.out).mono ?_
      rintro e w7 ⟨rfl, rfl⟩
      rw [HN0.out]
      go_wp2_with fail
      refine (two_len HF.out.swap).mono ?_
      rintro e w8 ⟨rfl, rfl⟩
      rw [show Z.rows.length = n0 from HR.out.symm.trans HN0.out]
      go_wp2_with fail
      refine (two_crowd HF.out).mono ?_
      rintro e w9 ⟨ca, rfl, hca, hT9⟩
      have HCA := Aside0.mk hca
      have HF := Aside0.mk hT9
      clear hca hT9
      go_wp2_with fail
      refine (two_crowd HF.out.swap).mono ?_
      rintro e w10 ⟨cb, rfl, hcb, hT10⟩
      have hx3 : cb ≤ ca := crowd_more HTB.out.rows HTB.out.tb HTB.out.zb HCA.out hcb
      have HF := Aside0.mk hT10.swap
      clear hcb hT10
      have q1 : decide ((cb : Int) ≤ (ca : Int)) = true := decide_eq_true (by omega)
      have q2 : decide ((lb : Int) ≤ (la : Int)) = true := decide_eq_true (by omega)
      have q3 : decide ((sa : Int) ≤ (lb : Int)) = true := decide_eq_true (by omega)
      go_wp2
      go_ret
      exact ⟨rfl, HF.out.below⟩
end Go.Proofs.Ytgfokmgbphhpjaa.St
