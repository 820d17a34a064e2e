/- The law's walk. -/
import Derived.Test.YtgfokmgbphhpjaaStSameP
import Derived.Test.YtgfokmgbphhpjaaStAwake
namespace Go.Proofs.Ytgfokmgbphhpjaa.StS
open Go.RowKit Go.Proofs.YtgfokmgbphhpjaaW.PrintWords Go.Proofs.YtgfokmgbphhpjaaW.PrintLast Go.Proofs.YtgfokmgbphhpjaaW.PrintMore Go.Proofs.Ytgfokmgbphhpjaa.PStampSame
open Classical
set_option linter.unusedVariables false
set_option linter.unusedSimpArgs false
set_option maxHeartbeats 4000000 in
set_option maxRecDepth 1000000 in
theorem same_walk (n : Nat) (a b : List S69) (A : Option Addr) (c : Nat) (B : Option Addr) (d : Nat) (w : World) (hA : Kd.C k69 w A a.length a) (hc : a.length ≤ c) (hB : Kd.C k69 w B b.length b) (hd : b.length ≤ d) (hn : BdT n a) :
    Calls Try.prog 7 #[.slice A a.length c, .slice B b.length d] w fun e w' => e = .returned (.bool true) ∧ Below w.heap.size w w' := by
  have HA := Aside0.mk hA
  have HB := Aside0.mk hB
  have HC := Aside0.mk hc
  have HD := Aside0.mk hd
  obtain ⟨k1, hk1⟩ := toldAnew_f hn
  obtain ⟨k2, hk2⟩ := sameTold_f hn b
  obtain ⟨k3, hk3⟩ := sameTold_f hn a
  have HK1 := Aside0.mk hk1
  have HK2 := Aside0.mk hk2
  have HK3 := Aside0.mk hk3
  have HS := Aside0.mk (show decide (b = a) = decide (a = b) from decide_eq_decide.2 ⟨Eq.symm, Eq.symm⟩)
  have HS2 := Aside0.mk (show decide (a = a) = true from decide_eq_true rfl)
  clear hA hB hc hd hn hk1 hk2 hk3
  go_enter Try.func7, Try.ntmps7
  go_wp2_with fail
  refine (St.awake_calls w).mono ?_
  rintro e w1 ⟨rfl, hb⟩
  have HW := Aside0.mk hb
  clear hb
  go_wp2_with fail
  refine (organonlaw11_toldAnew.calls k1 A c a a w1 (Kd.C_below HA.out HW.out) HC.out HK1.out).mono ?_
  rintro e w2 ⟨v2, rfl, hr, hb⟩
  have HW2 := Aside0.mk (HW.out.trans (hb.mono HW.out.size))
  have HWW := Aside0.mk hb
  obtain ⟨A2, c2, rfl⟩ := Kd.R_slice hr
  have hrd := Kd.R_reads' hr
  have HI := Aside0.mk hrd.2.2
  have HIC := Aside0.mk hrd.2.1
  clear hb hr hrd HW HWW
  go_wp2_with fail
  refine (same_calls a b A c B d w2 (Kd.C_below HA.out HW2.out) HC.out (Kd.C_below HB.out HW2.out) HD.out).mono ?_
  rintro e w3 ⟨rfl, hb⟩
  have HW3 := Aside0.mk (HW2.out.trans (hb.mono HW2.out.size))
  have HI3 := Aside0.mk (Kd.C_below HI.out hb)
  clear hb HW2 HI
  go_wp2_with fail
  refine (same_calls b a B d A c w3 (Kd.C_below HB.out HW3.out) HD.out (Kd.C_below HA.out HW3.out) HC.out).mono ?_
  rintro e w4 ⟨rfl, hb⟩
  have HW4 := Aside0.mk (HW3.out.trans (hb.mono HW3.out.size))
  have HI4 := Aside0.mk (Kd.C_below HI3.out hb)
  clear hb HW3 HI3
  rw [HS.out]
  go_wp2_with fail
  refine (same_calls a a A c A2 c2 w4 (Kd.C_below HA.out HW4.out) HC.out HI4.out HIC.out).mono ?_
  rintro e w5 ⟨rfl, hb⟩
  have HW5 := Aside0.mk (HW4.out.trans (hb.mono HW4.out.size))
  have HI5 := Aside0.mk (Kd.C_below HI4.out hb)
  clear hb HW4 HI4
  first | rw [show decide (a = a) = true from decide_eq_true rfl] | rw [decide_true]
  go_wp2_with fail
  refine (organonlaw11_sameTold.calls k2 A c a B d b _ w5 (Kd.C_below HA.out HW5.out) HC.out (Kd.C_below HB.out HW5.out) HD.out HK2.out).mono ?_
  rintro e w6 ⟨rfl, hb⟩
  have HW6 := Aside0.mk (HW5.out.trans (hb.mono HW5.out.size))
  have HI6 := Aside0.mk (Kd.C_below HI5.out hb)
  clear hb HW5 HI5
  obtain ⟨r, hr⟩ : ∃ r, decide (a = b) = r := ⟨_, rfl⟩
  rw [hr]
  have q0 : (r == r) = true := by simp
  clear hr
  go_wp2_with fail
  refine (organonlaw11_sameTold.calls k3 A2 c2 a A c a _ w6 HI6.out HIC.out (Kd.C_below HA.out HW6.out) HC.out HK3.out).mono ?_
  rintro e w7 ⟨rfl, hb⟩
  have HW7 := Aside0.mk (HW6.out.trans (hb.mono HW6.out.size))
  clear hb HW6 HI6
  first | rw [show decide (a = a) = true from decide_eq_true rfl] | rw [decide_true]
  go_wp2
  go_ret
  exact ⟨rfl, HW7.out⟩
end Go.Proofs.Ytgfokmgbphhpjaa.StS
