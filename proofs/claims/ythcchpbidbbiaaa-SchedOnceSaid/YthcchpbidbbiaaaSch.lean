/- Copies; several machines in one memory. -/
import Derived.Test.YthcchpbidbbiaaaScf
import Derived.Test.YthcchpbidbbiaaaScg
import Derived.Test.YthcchpbidbbiaaaOSchedSidex4
namespace Go.Proofs.Ythcchpbidbbiaaa.Sc
open Go.RowKit Go.Proofs.YthcchpbidbbiaaaW.PrintWords Go.Proofs.YthcchpbidbbiaaaW.PrintLast Go.Proofs.YthcchpbidbbiaaaW.PrintMore Go.Proofs.Ythcchpbidbbiaaa.PSchedSide
set_option linter.unusedVariables false
set_option linter.unusedSimpArgs false
/-- The same but for the peak. -/
def Like (a b : Mach) : Prop := ∃ p, b = { a with peak := p }
theorem Like.refl (a : Mach) : Like a a := ⟨a.peak, rfl⟩
theorem like_place {a b : Mach} (h : Like a b) (c : Int) : placeOf b c = placeOf a c ∧ placeErr b c = placeErr a c := by
  obtain ⟨p, rfl⟩ := h
  exact ⟨rfl, rfl⟩
theorem like_mvs {a b : Mach} (h : Like a b) : mvs b = mvs a := by
  obtain ⟨p, rfl⟩ := h
  have : ∀ k, mvTo { a with peak := p } k = mvTo a k := by
    intro k
    induction k with
    | zero => rfl
    | succ k ih => rw [mvTo, mvTo, ih]; rfl
  unfold mvs
  exact this _
theorem like_meas {a b : Mach} (h : Like a b) : measOf b = measOf a := by
  obtain ⟨p, rfl⟩ := h
  rw [measOf_eq, measOf_eq]
  rfl
theorem like_rest {a b : Mach} (h : Like a b) : b.sent = a.sent ∧ b.given = a.given ∧ b.got = a.got ∧ b.picks = a.picks ∧ b.outcome = a.outcome ∧ doneOf b = doneOf a ∧ b.jobs = a.jobs ∧ b.workers = a.workers := by
  obtain ⟨p, rfl⟩ := h
  exact ⟨rfl, rfl, rfl, rfl, rfl, rfl, rfl, rfl⟩
end Go.Proofs.Ythcchpbidbbiaaa.Sc
namespace Go.Proofs.Ythcchpbidbbiaaa.Sc
open Go.RowKit Go.Proofs.YthcchpbidbbiaaaW.PrintWords Go.Proofs.YthcchpbidbbiaaaW.PrintLast Go.Proofs.YthcchpbidbbiaaaW.PrintMore Go.Proofs.Ythcchpbidbbiaaa.PSchedSide
set_option linter.unusedVariables false
set_option linter.unusedSimpArgs false
theorem same_ints (l : List Int) (hl : l.length ≤ 1000000) : organonlaw18_sameInts.f (l.length + 1) l l = some true := by
  have key : ∀ (d k i : Nat), l.length - i = d → d < k → i ≤ l.length → organonlaw18_sameInts.l0 k l l i = some true := by
    intro d
    induction d with
    | zero =>
      intro k i h0 h1 h2
      obtain ⟨k, rfl⟩ : ∃ m, k = m + 1 := ⟨k - 1, by omega⟩
      simp only [organonlaw18_sameInts.l0]
      rw [if_neg (by omega)]
    | succ d ih =>
      intro k i h0 h1 h2
      obtain ⟨k, rfl⟩ : ∃ m, k = m + 1 := ⟨k - 1, by omega⟩
      simp only [organonlaw18_sameInts.l0]
      rw [if_pos (by omega), if_pos (by omega), if_pos (by omega), if_pos trivial, wrap_in (by omega) (by omega)]
      exact ih k (i + 1) (by omega) (by omega) (by omega)
  unfold organonlaw18_sameInts.f
  rw [if_pos rfl]
  exact key l.length _ 0 (by omega) (by omega) (by omega)
theorem same_ints_calls (A0 A1 : Option Addr) (c0 c1 : Nat) (l : List Int) (w : World) (hl : l.length ≤ 1000000) (h0 : Kd.C (Kd.int .i64) w A0 l.length l) (k0 : l.length ≤ c0) (h1 : Kd.C (Kd.int .i64) w A1 l.length l) (k1 : l.length ≤ c1) :
    Calls Try.prog 24 #[.slice A0 l.length c0, .slice A1 l.length c1] w fun e w' => e = .returned (.bool true) ∧ Drawn0 w w' :=
  organonlaw18_sameInts.calls (l.length + 1) A0 c0 l A1 c1 l true w h0 k0 h1 k1 (same_ints l hl)
theorem same_moves (l : List S64) (hl : l.length ≤ 1000000) : organonlaw18_sameMoves.f (l.length + 1) l l = some true := by
  have key : ∀ (d k i : Nat), l.length - i = d → d < k → i ≤ l.length → organonlaw18_sameMoves.l0 k l l i = some true := by
    intro d
    induction d with
    | zero =>
      intro k i h0 h1 h2
      obtain ⟨k, rfl⟩ : ∃ m, k = m + 1 := ⟨k - 1, by omega⟩
      simp only [organonlaw18_sameMoves.l0]
      rw [if_neg (by omega)]
    | succ d ih =>
      intro k i h0 h1 h2
      obtain ⟨k, rfl⟩ : ∃ m, k = m + 1 := ⟨k - 1, by omega⟩
      simp only [organonlaw18_sameMoves.l0]
      rw [if_pos (by omega), if_pos (by omega), if_pos (by omega), if_neg (by simp), wrap_in (by omega) (by omega)]
      exact ih k (i + 1) (by omega) (by omega) (by omega)
  unfold organonlaw18_sameMoves.f
  rw [if_pos rfl]
  exact key l.length _ 0 (by omega) (by omega) (by omega)
theorem same_moves_calls (A0 A1 : Option Addr) (c0 c1 : Nat) (l : List S64) (w : World) (hl : l.length ≤ 1000000) (h0 : Kd.C k64 w A0 l.length l) (k0 : l.length ≤ c0) (h1 : Kd.C k64 w A1 l.length l) (k1 : l.length ≤ c1) :
    Calls Try.prog 44 #[.slice A0 l.length c0, .slice A1 l.length c1] w fun e w' => e = .returned (.bool true) ∧ Drawn0 w w' :=
  organonlaw18_sameMoves.calls (l.length + 1) A0 c0 l A1 c1 l true w h0 k0 h1 k1 (same_moves l hl)
end Go.Proofs.Ythcchpbidbbiaaa.Sc
