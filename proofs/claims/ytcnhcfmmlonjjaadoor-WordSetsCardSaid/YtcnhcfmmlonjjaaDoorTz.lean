/- The walks of math/bits.TrailingZeros64 over its table, and of word.Least: every word. -/
import Derived.Test.YtcnhcfmmlonjjaaDoorPWordMembersx1
import Derived.Shelf.Spec.TrailingZeros
namespace Go.Proofs.YtcnhcfmmlonjjaaDoor.Tz
open Go.RowKit Go.Proofs.YtcnhcfmmlonjjaaDoorW.PrintWords Go.Proofs.YtcnhcfmmlonjjaaDoorW.PrintLast Go.Proofs.YtcnhcfmmlonjjaaDoorW.PrintMore
set_option linter.unusedVariables false
set_option linter.unusedSimpArgs false
/-- The library's table stands in its variable. -/
def Tab (w : World) : Prop := TabAt 0 Lib.deBruijn64tab w
theorem Tab.size {w : World} (h : Tab w) : 0 < w.heap.size := by
  have h0 := h 0 (by decide)
  rcases Nat.eq_zero_or_pos w.heap.size with e | e
  · simp [World.cell?, e] at h0
  · exact e
theorem Tab.below {w w' : World} (h : Tab w) (hb : Below w.heap.size w w') : Tab w' := fun j hj => by
  rw [hb.cell (p := ⟨0, j, none⟩) h.size]; exact h j hj
theorem Tab.drewN {w : World} (h : Tab w) (n : Nat) : Tab (w.drewN n) := fun j hj => by
  have := h j hj
  simpa using this
set_option maxHeartbeats 1000000 in
theorem tz_core (x k idx : Nat) (w : World) (hx0 : ((x : Int) == 0) = false)
    (key : IntKind.u64.wrap (bits BinOp.and IntKind.u64 (x : Int) (IntKind.u64.wrap (-(x : Int))) * 285870213051353865) / 288230376151711744 = (idx : Int))
    (hi : idx < 64) (hk : k < 64) (hcell : w.cell? ⟨0, idx, none⟩ = some (.int .u8 k)) :
    Calls Tryd.prog 23 #[.int .u64 x] w fun e w' => e = .returned (.int .i64 k) ∧ w' = w := by
  go_enter Tryd.func23, Tryd.ntmps23
  go_wp2_with (simp only [key])
  go_ret
  exact ⟨rfl, rfl⟩
theorem tz_any (x : Nat) (hx : x < 18446744073709551616) (hx0 : x ≠ 0) (w : World) (hT : Tab w) :
    Calls Tryd.prog 23 #[.int .u64 x] w fun e w' => e = .returned (.int .i64 (Lib.ctz 64 x)) ∧ w' = w := by
  obtain ⟨hlow, hk⟩ := Lib.lowest_bit 64 x hx0 hx
  obtain ⟨hi, htab⟩ := Lib.deBruijn64_at _ hk
  have hcell := hT _ hi
  rw [htab] at hcell
  exact tz_core x _ _ w (by simp; omega) (tz64_key x _ hx hx0 hlow) hi hk hcell
/-- What Least tells. -/
def leastI (x : Nat) : Int := if x = 0 then -1 else (Lib.ctz 64 x : Int)
set_option maxHeartbeats 1000000 in
theorem least_any (x : Nat) (hx : x < 18446744073709551616) (w : World) (hT : Tab w) :
    Calls Tryd.prog 13 #[.int .u64 x] w fun e w' => e = .returned (.int .i64 (leastI x)) ∧ w = w' := by
  by_cases hx0 : x = 0
  · subst hx0
    have e : leastI 0 = -1 := rfl
    rw [e]
    go_enter Tryd.func13, Tryd.ntmps13
    go_wp2
    go_ret
    exact ⟨rfl, rfl⟩
  · have e : leastI x = (Lib.ctz 64 x : Int) := by unfold leastI; rw [if_neg hx0]
    rw [e]
    have h0 : ((x : Int) == 0) = false := by simp; omega
    have T := Aside0.mk hT
    clear hT e
    have hx1 := Aside0.mk hx0
    clear hx0
    go_enter Tryd.func13, Tryd.ntmps13
    go_wp2_with (go_at_call 23; (with_reducible refine (tz_any x hx hx1.out _ T.out).mono ?_); rintro e w' ⟨rfl, rfl⟩)
    go_ret
    exact ⟨rfl, rfl⟩
end Go.Proofs.YtcnhcfmmlonjjaaDoor.Tz
