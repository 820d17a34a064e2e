/- (*Table).Crowd. -/
import Derived.Test.YtgfokmgbphhpjaaStGet
import Derived.Maps.RangeWalk
namespace Go.Proofs.Ytgfokmgbphhpjaa.St
open Go.RowKit Go.Proofs.YtgfokmgbphhpjaaW.PrintWords Go.Proofs.YtgfokmgbphhpjaaW.PrintLast Go.Proofs.YtgfokmgbphhpjaaW.PrintMore Go.Proofs.Ytgfokmgbphhpjaa.PStampKeeps
open Go.Maps Go.WideElems Go.MapKept Go.ChangeMaps Go.ChangeShapes
set_option linter.unusedVariables false
set_option linter.unusedSimpArgs false
/-- The most rows that have one stamp. -/
def IsCrowd (T : Tab) (k : Nat) : Prop := (∀ s : Nat, s < 18446744073709551616 → (idxs T.bits T.rows s).length ≤ k) ∧ (k = 0 ∨ ∃ s : Nat, s < 18446744073709551616 ∧ (idxs T.bits T.rows s).length = k)
set_option maxHeartbeats 4000000 in
set_option maxRecDepth 1000000 in
theorem crowd_calls (w : World) {pt : Nat} {T : Tab} {F : Nat → Prop} {bm : Nat} {vr : Value} {FR FG : Nat → Prop} {D : DataW Unit} (h : IsT w pt T F bm vr FR FG D) :
    Calls Try.prog 24 #[ptr pt] w fun e w' => ∃ k : Nat, e = .returned (.int .i64 k) ∧ IsCrowd T k ∧ Below w.heap.size w w' := by
  have c3 : w.cell? ⟨pt, 3, none⟩ = some (.map (some bm)) := (blk_cell h.blk 3).trans rfl
  have HI := Aside0.mk h
  have hown : w.ownsMap Try.prog 30 (rowElem (H := Unit) w (bm + 1) 3 .i64) bm T.rows.length D := by
    obtain ⟨es, clock, hb, F', hs, hD, _⟩ := h.grp
    exact ⟨es, clock, hb, F', hs, hD⟩
  have HLE := Aside0.mk (show T.rows.length ≤ 20000 from Nat.le_trans h.len h.room)
  clear h
  go_enter Try.func24, Try.ntmps24
  go_wp2_with (at_range; refine wpList_range_own _ rfl _ 79 rfl 30 82 (int_keyed Try.underlying30) Try.underlying79 (rowElem (H := Unit) w (bm + 1) 3 .i64) bm T.rows.length D rfl hown ?_; intro w0 hrg0 hg0 hs0)
  go_frame
  go_loopw [3] (fun m wr => ∃ (left : Lit → Bool) (cnt k : Nat), m = .int .i64 k ∧ wr.ranges Try.prog 30 (rowElem (H := Unit) w (bm + 1) 3 .i64) bm w.heap.size T.rows.length D left cnt ∧ Below w.heap.size w wr ∧
      (∀ s : Nat, s < 18446744073709551616 → left (.int .u64 (s : Int)) = false → (idxs T.bits T.rows s).length ≤ k) ∧ (k = 0 ∨ ∃ s : Nat, s < 18446744073709551616 ∧ (idxs T.bits T.rows s).length = k) ∧ k ≤ 20000) (fun _ wr => wr.rangeLeft bm w.heap.size)
  case atStart =>
    refine ⟨_, _, 0, rfl, hrg0, (Below.refl _ _).grown hg0 (Nat.le_refl _) (fun j hj => by cases hj), ?_, Or.inl rfl, by omega⟩
    intro s hs hl
    have h1 := HI.out.hat s hs
    rw [Maps.atKey_of_not_has hl] at h1
    unfold datum at h1
    split at h1
    · rename_i h2; rw [h2]; exact Nat.le_refl _
    · cases h1
  case round =>
    obtain ⟨left, cnt, k, rfl, hrg, hb, hall, hat1, hk⟩ := hrel
    go_wp2_with (at_next; refine wpList_next_ranges (α := Int) (β := Option Addr × Nat × Nat) _ rfl _ rfl 30 (int_keyed Try.underlying30) (rowElem (H := Unit) w (bm + 1) 3 .i64) (Value.int .u64) (fun p => Value.slice p.1 p.2.1 p.2.2) (fun key kl hk => by obtain ⟨x, hx, _⟩ := Maps.keyOf_int_inv Try.underlying30 hk; exact ⟨x, hx⟩) (fun v y hv => by
      obtain ⟨zs, ho, _⟩ := rowElem_inv hv
      obtain ⟨A, c, e, _⟩ := ints_slice ho
      exact ⟨(A, zs.length, c), e⟩) bm w.heap.size T.rows.length D left cnt rfl hrg ?_ ?_)
    · intro hc0 hl0
      go_wp2
      go_ret
      exact ⟨k, rfl, ⟨fun s hs => hall s hs (hl0 _), hat1⟩, hb⟩
    · intro x A n c kl y1 y2 w1 cnt1 hkey hlk hv hat hrg1 hlt hg1 hs1 hen
      obtain ⟨x', ex, rfl, hwx⟩ := Maps.keyOf_int_inv Try.underlying30 hkey
      cases ex
      obtain ⟨zs, ho, hy⟩ := rowElem_inv hv
      obtain ⟨x0, x1⟩ := Base.wf_u64 hwx
      obtain ⟨s, rfl⟩ := Int.eq_ofNat_of_zero_le x0
      have h2 := hat .nil
      have hy1 := (Prod.mk.inj hy).1
      rw [HI.out.hat s (by omega), hy1] at h2
      have hz := datum_row ho h2
      obtain ⟨A', c', e', _⟩ := ints_slice ho
      have hn : n = (idxs T.bits T.rows s).length := by
        rw [hz] at e'
        exact (Value.slice.inj e').2.1
      have hnl : n ≤ 20000 := by rw [hn]; exact Nat.le_trans (idxs_length _ _ _) HLE.out
      clear hat h2 hy hv ho hy1

      go_wp2
      rw [hn] at hnl
      have hb1 : Below w.heap.size w w1 := hb.grown hg1 hb.size (fun j hj => by cases hj; exact Nat.le_refl _)
      refine ⟨⟨_, cnt1, max k (idxs T.bits T.rows s).length, ?_, hrg1, hb1, ?_, ?_, ?_⟩, by rw [hrg1.left_eq, hrg.left_eq]; exact hlt⟩
      · congr 1
        split <;> omega
      · intro s2 hs2 hl2
        by_cases e : s2 = s
        · subst e; exact Nat.le_max_right _ _
        · have h3 : (Lit.int .u64 (s : Int)).sameKey (.int .u64 (s2 : Int)) = false := Maps.sameKey_ne (by intro e2; injection e2 with e3 e4; exact e (by omega))
          have h4 : (Lit.int .u64 (s2 : Int)).sameKey (.int .u64 (s : Int)) = false := Maps.sameKey_ne (by intro e2; injection e2 with e3 e4; exact e (by omega))
          have hl3 : left (.int .u64 (s2 : Int)) = false := by
            simp only [h4, Bool.not_false, Bool.and_true] at hl2
            exact hl2
          exact Nat.le_trans (hall s2 hs2 hl3) (Nat.le_max_left _ _)
      · rcases Nat.le_total k (idxs T.bits T.rows s).length with h5 | h5
        · exact Or.inr ⟨s, by omega, (Nat.max_eq_right h5).symm⟩
        · rw [Nat.max_eq_left h5]; exact hat1
      · omega
end Go.Proofs.Ytgfokmgbphhpjaa.St
