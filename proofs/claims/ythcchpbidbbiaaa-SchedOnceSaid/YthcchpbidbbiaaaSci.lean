/- Machines that cannot be told apart; a law beside several machines. -/
import Derived.Test.YthcchpbidbbiaaaScf
import Derived.Test.YthcchpbidbbiaaaSch
import Derived.Test.YthcchpbidbbiaaaSce
namespace Go.Proofs.Ythcchpbidbbiaaa.Sc
open Go.RowKit Go.Proofs.YthcchpbidbbiaaaW.PrintWords Go.Proofs.YthcchpbidbbiaaaW.PrintLast Go.Proofs.YthcchpbidbbiaaaW.PrintMore Go.Proofs.Ythcchpbidbbiaaa.PSchedSide
set_option linter.unusedVariables false
set_option linter.unusedSimpArgs false
section
variable {w0 W W' : World} {N : Nat → Prop} {g : Nat} {m : Mach}
theorem pk_place (h : Run w0 W N g m) (p : Int) (hp : 0 ≤ p ∧ p ≤ m.workers.length + 1) {z0 z1 z2 : Int} (hz : placeOf m p = ⟨z0, z1, z2⟩) : Calls Try.prog 29 #[ptr g, .int .i64 p] W fun e w' => e = .returned (.tuple #[.agg #[.int .i64 z0, .int .i64 z1, .int .i64 z2], .int .i64 0]) ∧ Below W.heap.size W w' := by
  have h8 := h.inv.ok.nw
  have h9 := h.inv.ok.pw
  refine (r_place h p (by omega)).mono ?_
  rintro e w' ⟨rfl, _, hb⟩
  have he : placeErr m p = 0 := by unfold placeErr; rw [if_neg (by omega)]
  rw [he, hz]
  exact ⟨rfl, hb⟩
theorem pk_waiting (h : Run w0 W N g m) {S G : List Int} (hS : m.sent = S) (hG : m.given = G) : Calls Try.prog 23 #[ptr g] W fun e w' => ∃ A1 c1 A2 c2, e = .returned (.tuple #[.slice A1 S.length c1, .slice A2 G.length c2]) ∧ Kd.C (Kd.int .i64) w' A1 S.length S ∧ S.length ≤ c1 ∧ Kd.C (Kd.int .i64) w' A2 G.length G ∧ G.length ≤ c2 ∧ Below W.heap.size W w' := by
  subst hS hG
  obtain ⟨s, hI, hF⟩ := h.out
  refine (waiting_calls W g s m hI h.inv.ok).mono ?_
  rintro e w' ⟨v1, v2, W1, B, rfl, h1, h2, h3, h4, hb⟩
  obtain ⟨A1, c1, hv1⟩ := Kd.R_slice h1
  obtain ⟨A2, c2, hv2⟩ := Kd.R_slice h3
  subst hv1 hv2
  have h5 := Kd.R_reads' (Kd.R_below h1 h2)
  have h6 := Kd.R_reads' h3
  exact ⟨A1, c1, A2, c2, rfl, h5.2.2, h5.2.1, h6.2.2, h6.2.1, hb⟩
theorem pk_got (h : Run w0 W N g m) {O : List Int} (hO : m.got = O) : Calls Try.prog 26 #[ptr g] W fun e w' => ∃ A c, e = .returned (.slice A O.length c) ∧ Kd.C (Kd.int .i64) w' A O.length O ∧ O.length ≤ c ∧ Below W.heap.size W w' := by
  subst hO
  refine (r_got h).mono ?_
  rintro e w' ⟨u, rfl, hr, _, hb⟩
  obtain ⟨A, c, hv⟩ := Kd.R_slice hr
  subst hv
  have h6 := Kd.R_reads' hr
  exact ⟨A, c, rfl, h6.2.2, h6.2.1, hb⟩
theorem pk_ready (h : Run w0 W N g m) {L : List S64} (hL : mvs m = L) : Calls Try.prog 34 #[ptr g] W fun e w' => ∃ A, e = .returned (.slice A L.length L.length) ∧ Kd.C k64 w' A L.length L ∧ Below W.heap.size W w' := by
  subst hL
  refine (r_ready h).mono ?_
  rintro e w' ⟨A, c, rfl, hr, _, hb⟩
  exact ⟨A, rfl, (Kd.R_reads' hr).2.2, hb⟩
theorem pk_measure (h : Run w0 W N g m) {z0 z1 z2 z3 z4 : Int} (hz : measOf m = ⟨z0, z1, z2, z3, z4⟩) : Calls Try.prog 32 #[ptr g] W fun e w' => e = .returned (.agg #[.int .i64 z0, .int .i64 z1, .int .i64 z2, .int .i64 z3, .int .i64 z4]) ∧ Below W.heap.size W w' := by
  refine (r_measure h).mono ?_
  rintro e w' ⟨rfl, _, hb⟩
  rw [hz]
  exact ⟨rfl, hb⟩
theorem pk_picks (h : Run w0 W N g m) {x : Int} (hx : m.picks = x) : Calls Try.prog 36 #[ptr g] W fun e w' => e = .returned (.int .i64 x) ∧ w' = W := by
  subst hx
  exact r_picks h
theorem pk_outcome (h : Run w0 W N g m) {x : Int} (hx : m.outcome = x) : Calls Try.prog 27 #[ptr g] W fun e w' => e = .returned (.int .i64 x) ∧ w' = W := by
  subst hx
  exact r_outcome h
theorem pk_peak (h : Run w0 W N g m) {x : Int} (hx : m.peak = x) : Calls Try.prog 31 #[ptr g] W fun e w' => e = .returned (.int .i64 x) ∧ w' = W := by
  subst hx
  exact r_peak h
theorem pk_done (h : Run w0 W N g m) {x : Bool} (hx : doneOf m = x) : Calls Try.prog 17 #[ptr g] W fun e w' => e = .returned (.bool x) ∧ Below W.heap.size W w' := by
  subst hx
  refine (r_done h).mono ?_
  rintro e w' ⟨rfl, _, hb⟩
  exact ⟨rfl, hb⟩
theorem same_ints_below (A0 A1 : Option Addr) (c0 c1 : Nat) (l : List Int) (w : World) (hl : l.length ≤ 1000000) (h0 : Kd.C (Kd.int .i64) w A0 l.length l) (k0 : l.length ≤ c0) (h1 : Kd.C (Kd.int .i64) w A1 l.length l) (k1 : l.length ≤ c1) :
    Calls Try.prog 24 #[.slice A0 l.length c0, .slice A1 l.length c1] w fun e w' => e = .returned (.bool true) ∧ Below w.heap.size w w' :=
  (same_ints_calls A0 A1 c0 c1 l w hl h0 k0 h1 k1).mono fun _ _ ⟨h, hd⟩ => ⟨h, below_drawn (Below.refl _ _) hd⟩
theorem same_moves_below (A0 A1 : Option Addr) (c0 c1 : Nat) (l : List S64) (w : World) (hl : l.length ≤ 1000000) (h0 : Kd.C k64 w A0 l.length l) (k0 : l.length ≤ c0) (h1 : Kd.C k64 w A1 l.length l) (k1 : l.length ≤ c1) :
    Calls Try.prog 44 #[.slice A0 l.length c0, .slice A1 l.length c1] w fun e w' => e = .returned (.bool true) ∧ Below w.heap.size w w' :=
  (same_moves_calls A0 A1 c0 c1 l w hl h0 k0 h1 k1).mono fun _ _ ⟨h, hd⟩ => ⟨h, below_drawn (Below.refl _ _) hd⟩
end
end Go.Proofs.Ythcchpbidbbiaaa.Sc
