/- The walk of WordMembers: given what the functions that it calls tell, it returns true. -/
import Derived.Test.YtcnhcfmmlonjjaaDoorTz
namespace Go.Proofs.YtcnhcfmmlonjjaaDoor.PWordMembers
open Go.RowKit Go.Proofs.YtcnhcfmmlonjjaaDoorW.PrintWords Go.Proofs.YtcnhcfmmlonjjaaDoorW.PrintLast Go.Proofs.YtcnhcfmmlonjjaaDoorW.PrintMore Go.Proofs.YtcnhcfmmlonjjaaDoor.Tz
attribute [local go_sem] max2_int min2_int max_two min_two max_three min_three max_four min_four
set_option linter.unusedVariables false
set_option linter.unusedSimpArgs false
set_option maxHeartbeats 8000000 in
set_option maxRecDepth 100000 in
theorem members_walk (k x : Nat) (hx : x < 18446744073709551616) (n : Int) (h : Bool) (u v c : Int)
    (a5 : word_Has.f (x : Int) n = some h) (a6 : organonref01_Has.f k (x : Int) n = some h) (a7 : word_With.f (x : Int) n = some u) (a8 : organonref01_With.f k (x : Int) n = some u)
    (a9 : word_Without.f (x : Int) n = some v) (a10 : organonref01_Without.f k (x : Int) n = some v) (a11 : word_Count.f (x : Int) = some c) (a12 : organonref01_Count.f k (x : Int) = some c)
    (a14 : organonref01_Least.f k (x : Int) = some (leastI x)) (w : World) (hT : Tab w) :
    Calls Tryd.prog 3 #[.int .u64 x, .int .i64 n] w fun e w' => e = .returned (.bool true) ∧ Below w.heap.size w w' := by
  have HB := Aside0.mk (Below.refl w.heap.size w)
  have T := Aside0.mk hT
  have HX := Aside0.mk hx
  have A5 := Aside0.mk a5
  have A6 := Aside0.mk a6
  have A7 := Aside0.mk a7
  have A8 := Aside0.mk a8
  have A9 := Aside0.mk a9
  have A10 := Aside0.mk a10
  have A11 := Aside0.mk a11
  have A12 := Aside0.mk a12
  have A14 := Aside0.mk a14
  clear hT hx a5 a6 a7 a8 a9 a10 a11 a12 a14
  have e1 : (h == h) = true := beq_self_eq_true h
  have e2 : (u == u) = true := beq_self_eq_true u
  have e3 : (v == v) = true := beq_self_eq_true v
  have e4 : (c == c) = true := beq_self_eq_true c
  have e5 : (leastI x == leastI x) = true := beq_self_eq_true _
  go_enter Tryd.func3, Tryd.ntmps3
  go_wp2_with (first | ((with_reducible refine gate_callee (f := 5) rfl ?_); refine goesL_ (some 7) rfl rfl Tryd.func5 (by kernel_rfl) rfl #[.int .u64 x, .int .i64 n] rfl (by (try simp only [List.map_toArray, List.map_cons, List.map_nil]); first | done | rfl | (simp only [List.length_drop, List.length_take]; rfl)) ?_; (with_reducible refine (word_Has.calls (x : Int) n h _ A5.out).mono ?_); rintro e w' ⟨rfl, ⟨nd, rfl⟩⟩; refine ⟨_, rfl, ?_⟩) | ((with_reducible refine gate_callee (f := 6) rfl ?_); refine goesL_ (some 10) rfl rfl Tryd.func6 (by kernel_rfl) rfl #[.int .u64 x, .int .i64 n] rfl (by (try simp only [List.map_toArray, List.map_cons, List.map_nil]); first | done | rfl | (simp only [List.length_drop, List.length_take]; rfl)) ?_; (with_reducible refine (organonref01_Has.calls k (x : Int) n h _ A6.out).mono ?_); rintro e w' ⟨rfl, ⟨nd, rfl⟩⟩; refine ⟨_, rfl, ?_⟩) | (go_at_call 7; (with_reducible refine (word_With.calls (x : Int) n u _ A7.out).mono ?_); rintro e w' ⟨rfl, ⟨nd, rfl⟩⟩) | (go_at_call 8; (with_reducible refine (organonref01_With.calls k (x : Int) n u _ A8.out).mono ?_); rintro e w' ⟨rfl, ⟨nd, rfl⟩⟩) | (go_at_call 9; (with_reducible refine (word_Without.calls (x : Int) n v _ A9.out).mono ?_); rintro e w' ⟨rfl, ⟨nd, rfl⟩⟩) | (go_at_call 10; (with_reducible refine (organonref01_Without.calls k (x : Int) n v _ A10.out).mono ?_); rintro e w' ⟨rfl, ⟨nd, rfl⟩⟩) | (go_at_call 11; (with_reducible refine (word_Count.calls (x : Int) c _ A11.out).mono ?_); rintro e w' ⟨rfl, ⟨nd, rfl⟩⟩) | (go_at_call 12; (with_reducible refine (organonref01_Count.calls k (x : Int) c _ A12.out).mono ?_); rintro e w12 ⟨rfl, hb⟩; have n0_ := Aside0.mk (below_step (by repeat (first | (with_reducible first | exact HB.out | apply below_alloc | apply pw_below_drewN | apply below_drew1) | exact HB.out)) hb); have n1_ := Aside0.mk (T.out.below n0_.out); clear HB T hb; have HB := n0_; have T := n1_; clear n0_ n1_) | (go_at_call 13; (with_reducible refine (least_any x HX.out _ (by first | exact T.out | exact T.out.drewN _ | exact (T.out.drewN _).drewN _)).mono ?_); rintro e w' ⟨rfl, rfl⟩) | (go_at_call 14; (with_reducible refine (organonref01_Least.calls k (x : Int) (leastI x) _ A14.out).mono ?_); rintro e w14 ⟨rfl, hb⟩; have n0_ := Aside0.mk (below_step (by repeat (first | (with_reducible first | exact HB.out | apply below_alloc | apply pw_below_drewN | apply below_drew1) | exact HB.out)) hb); clear HB hb; have HB := n0_; clear n0_))
  go_ret
  exact ⟨by first | rfl | (simp; done) | (simp [*]; done), by repeat (first | (with_reducible first | exact HB.out | apply below_alloc | apply pw_below_drewN | apply below_drew1) | exact HB.out)⟩
end Go.Proofs.YtcnhcfmmlonjjaaDoor.PWordMembers
