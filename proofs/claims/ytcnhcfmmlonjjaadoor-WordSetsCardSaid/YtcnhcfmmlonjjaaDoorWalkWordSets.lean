/- The walk of WordSets: given what the functions that it calls tell, it returns true. -/
import Derived.Test.YtcnhcfmmlonjjaaDoorTz
import Derived.Test.YtcnhcfmmlonjjaaDoorPWordSetsx1
import Derived.Test.YtcnhcfmmlonjjaaDoorPWordSetsx2
namespace Go.Proofs.YtcnhcfmmlonjjaaDoor.PWordSets
open Go.RowKit Go.Proofs.YtcnhcfmmlonjjaaDoorW.PrintWords Go.Proofs.YtcnhcfmmlonjjaaDoorW.PrintLast Go.Proofs.YtcnhcfmmlonjjaaDoorW.PrintMore Go.Proofs.YtcnhcfmmlonjjaaDoor.Tz
attribute [local go_sem] max2_int min2_int max_two min_two max_three min_three max_four min_four
set_option linter.unusedVariables false
set_option linter.unusedSimpArgs false
set_option maxHeartbeats 8000000 in
set_option maxRecDepth 100000 in
theorem sets_walk (k x : Nat) (hx : x < 18446744073709551616) (er c : Int) (l0 L : List Int)
    (a15 : word_Set.f k l0 = some ((x : Int), er)) (a16 : organonref01_Set.f k l0 = some ((x : Int), er)) (a18 : word_List.f k (x : Int) = some L) (a19 : organonref01_List.f k (x : Int) = some L)
    (a17 : organonlaw01_sameInts.f k L L = some true) (a11 : word_Count.f (x : Int) = some c) (a12 : organonref01_Count.f k (x : Int) = some c)
    (a14 : organonref01_Least.f k (x : Int) = some (leastI x)) (A0 : Option Addr) (c0 : Nat) (w : World) (hr0 : Kd.C (Kd.int .i64) w A0 l0.length l0) (hc0 : l0.length ≤ c0) (hT : Tab w) :
    Calls Tryd.prog 4 #[.slice A0 l0.length c0] w fun e w' => e = .returned (.bool true) ∧ Below w.heap.size w w' := by
  have HB := Aside0.mk (Below.refl w.heap.size w)
  have T := Aside0.mk hT
  have HX := Aside0.mk hx
  have HR0 := Aside0.mk hr0
  have HC0 := Aside0.mk hc0
  have A15 := Aside0.mk a15
  have A16 := Aside0.mk a16
  have A17 := Aside0.mk a17
  have A18 := Aside0.mk a18
  have A19 := Aside0.mk a19
  have A11 := Aside0.mk a11
  have A12 := Aside0.mk a12
  have A14 := Aside0.mk a14
  clear hT hx hr0 hc0 a15 a16 a17 a18 a19 a11 a12 a14
  have e1 : ((x : Int) == (x : Int)) = true := beq_self_eq_true _
  have e2 : (er == er) = true := beq_self_eq_true er
  have e4 : (c == c) = true := beq_self_eq_true c
  have e5 : (leastI x == leastI x) = true := beq_self_eq_true _
  go_enter Tryd.func4, Tryd.ntmps4
  go_wp2_with (first | (go_at_call 15; (with_reducible refine (word_Set.calls k A0 c0 l0 (x : Int) er _ ?side1 ?side2 A15.out).mono ?_); (case side1 => repeat (first | exact HR0.out | (with_reducible refine Kd.C_alloc ?_ _) | (with_reducible refine Kd.C_drewN ?_ _) | (with_reducible refine Kd.C_drew ?_))); (case side2 => exact HC0.out); rintro e w' ⟨rfl, ⟨nd, rfl⟩⟩) | (go_at_call 16; (with_reducible refine (organonref01_Set.calls k A0 c0 l0 (x : Int) er _ ?side1 ?side2 A16.out).mono ?_); (case side1 => repeat (first | exact HR0.out | (with_reducible refine Kd.C_alloc ?_ _) | (with_reducible refine Kd.C_drewN ?_ _) | (with_reducible refine Kd.C_drew ?_))); (case side2 => exact HC0.out); rintro e w' ⟨rfl, ⟨nd, rfl⟩⟩) | (go_at_call 18; (with_reducible refine (word_List.calls k (x : Int) L _ A18.out).mono ?_); rintro e w18 ⟨v18, rfl, ho0, hb⟩; have n0_ := Aside0.mk (Kd.R_lower ho0 (below_size (by repeat (first | (with_reducible first | exact HB.out | apply below_alloc | apply pw_below_drewN | apply below_drew1) | exact HB.out)))); have n1_ := Aside0.mk (below_step (by repeat (first | (with_reducible first | exact HB.out | apply below_alloc | apply pw_below_drewN | apply below_drew1) | exact HB.out)) hb); have n2_ := Aside0.mk (T.out.below n1_.out); clear HB T; have HO18 := n0_; have HB := n1_; have T18 := n2_; clear n0_ n1_ n2_; (try clear hb); (try clear ho0); obtain ⟨Ao18, co18, eo18⟩ := Kd.R_slice HO18.out; subst eo18) | (go_at_call 19; (with_reducible refine (organonref01_List.calls k (x : Int) L _ A19.out).mono ?_); rintro e w19 ⟨v19, rfl, ho0, hb⟩; have n0_ := Aside0.mk (Kd.R_elder' (by (with_reducible repeat (first | apply Kd.R_alloc | apply Kd.R_drewN | apply Kd.R_drew)); exact HO18.out) (Kd.R_base ho0) hb); have n1_ := Aside0.mk (Kd.R_lower (Kd.R_new' ho0 (Kd.R_lt (by (with_reducible repeat (first | apply Kd.R_alloc | apply Kd.R_drewN | apply Kd.R_drew)); exact HO18.out))) (below_size (by repeat (first | (with_reducible first | exact HB.out | apply below_alloc | apply pw_below_drewN | apply below_drew1) | exact HB.out)))); have n2_ := Aside0.mk (below_step (by repeat (first | (with_reducible first | exact HB.out | apply below_alloc | apply pw_below_drewN | apply below_drew1) | exact HB.out)) hb); have n3_ := Aside0.mk (show Tab w19 from by first | exact T18.out.below hb | exact (T18.out.drewN _).below hb); clear HB HO18 T18; have HO18 := n0_; have HO19 := n1_; have HB := n2_; have T19 := n3_; clear n0_ n1_ n2_ n3_; (try clear hb); (try clear ho0); obtain ⟨Ao19, co19, eo19⟩ := Kd.R_slice HO19.out; subst eo19) | (go_at_call 17; (with_reducible refine (organonlaw01_sameInts.calls k _ _ L _ _ L true _ ?side1 ?side2 ?side3 ?side4 A17.out).mono ?_); (case side1 => repeat (first | exact (Kd.R_reads' HO18.out).2.2 | (with_reducible refine Kd.C_alloc ?_ _) | (with_reducible refine Kd.C_drewN ?_ _) | (with_reducible refine Kd.C_drew ?_))); (case side2 => exact (Kd.R_reads' HO18.out).2.1); (case side3 => repeat (first | exact (Kd.R_reads' HO19.out).2.2 | (with_reducible refine Kd.C_alloc ?_ _) | (with_reducible refine Kd.C_drewN ?_ _) | (with_reducible refine Kd.C_drew ?_))); (case side4 => exact (Kd.R_reads' HO19.out).2.1); rintro e w' ⟨rfl, ⟨nd, rfl⟩⟩) | (go_at_call 11; (with_reducible refine (word_Count.calls (x : Int) c _ A11.out).mono ?_); rintro e w' ⟨rfl, ⟨nd, rfl⟩⟩) | (go_at_call 12; (with_reducible refine (organonref01_Count.calls k (x : Int) c _ A12.out).mono ?_); rintro e w12 ⟨rfl, hb⟩; have n0_ := Aside0.mk (below_step (by repeat (first | (with_reducible first | exact HB.out | apply below_alloc | apply pw_below_drewN | apply below_drew1) | exact HB.out)) hb); have n1_ := Aside0.mk (show Tab w12 from by first | exact T19.out.below hb | exact (T19.out.drewN _).below hb); clear HB hb; have HB := n0_; have T12 := n1_; clear n0_ n1_) | (go_at_call 13; (with_reducible refine (least_any x HX.out _ (by first | exact T12.out | exact T12.out.drewN _ | exact (T12.out.drewN _).drewN _)).mono ?_); rintro e w' ⟨rfl, rfl⟩) | (go_at_call 14; (with_reducible refine (organonref01_Least.calls k (x : Int) (leastI x) _ A14.out).mono ?_); rintro e w14 ⟨rfl, hb⟩; have n0_ := Aside0.mk (below_step (by repeat (first | (with_reducible first | exact HB.out | apply below_alloc | apply pw_below_drewN | apply below_drew1) | exact HB.out)) hb); clear HB hb; have HB := n0_; clear n0_))
  go_ret
  exact ⟨by first | rfl | (simp; done) | (simp [*]; done), by repeat (first | (with_reducible first | exact HB.out | apply below_alloc | apply pw_below_drewN | apply below_drew1) | exact HB.out)⟩
end Go.Proofs.YtcnhcfmmlonjjaaDoor.PWordSets
