/- StampBits, one row: in plain terms. -/
import Derived.Test.YtgfokmgbphhpjaaStTwo
namespace Go.Proofs.Ytgfokmgbphhpjaa.St
open Go.RowKit
set_option linter.unusedVariables false
set_option linter.unusedSimpArgs false
/-- The two tables behind i rows. -/
structure BR (T Z : Tab) (i : Nat) : Prop where
  tr : T.room = 200
  zr : Z.room = 200
  tb : T.bits ≤ Z.bits
  zb : Z.bits ≤ 64
  rows : T.rows = Z.rows
  nd : T.rows.Nodup
  len : T.rows.length ≤ 200
  tl : T.looked ≤ 200 * i
  zl : Z.looked ≤ T.looked
  same : T.same = Z.same
theorem bits_after {T Z : Tab} {i : Nat} (h : BR T Z i) (b : List Int) : BR (T.after b) (Z.after b) (i + 1) ∧ T.find b = Z.find b := by
  have hf := find_same (b := b) h.rows h.nd
  have l1 : (T.after b).looked ≤ T.looked + T.rows.length := after_looked T b
  have l2 := looks_more h.rows h.tb h.zb b
  have l3 := h.len
  have l4 := h.tl
  have l5 := h.zl
  refine ⟨⟨h.tr, h.zr, h.tb, h.zb, h.rows, h.nd, h.len, by omega, ?_, ?_⟩, hf⟩
  · show Z.looked + (scan Z.rows b (Z.grp b)).1 ≤ T.looked + (scan T.rows b (T.grp b)).1
    omega
  · show T.same + (if (T.find b).isSome then 1 else 0) = Z.same + (if (Z.find b).isSome then 1 else 0)
    rw [hf, h.same]
theorem bits_put {T Z : Tab} {i : Nat} (h : BR T Z i) (b : List Int) : BR (T.put b) (Z.put b) (i + 1) ∧ T.putN b = Z.putN b ∧ T.putE b = Z.putE b ∧ (T.putE b = 0 ∨ (T.putE b = 60 ∧ (T.put b).rows.length = 200)) := by
  obtain ⟨h1, hf⟩ := bits_after h b
  have e1 : T.room = Z.room := h.tr.trans h.zr.symm
  have e2 : T.rows.length = Z.rows.length := by rw [h.rows]
  refine ⟨?_, ?_, ?_, ?_⟩
  · unfold Tab.put
    rw [← hf, ← e1, ← e2]
    by_cases hc : (T.find b).isSome ∨ T.room ≤ T.rows.length
    · rw [if_pos hc, if_pos hc]; exact h1
    · rw [if_neg hc, if_neg hc]
      have hn : T.find b = none := by
        cases e : T.find b with
        | none => rfl
        | some n => exact absurd (Or.inl (by rw [e]; rfl)) hc
      have hl : T.rows.length < 200 := by
        have h4 := h.tr
        rcases Nat.lt_or_ge T.rows.length 200 with h5 | h5
        · exact h5
        · exact absurd (Or.inr (by omega)) hc
      exact ⟨h1.tr, h1.zr, h1.tb, h1.zb, by show T.rows ++ [b] = Z.rows ++ [b]; rw [h.rows], nodup_put h.nd hn, by show (T.rows ++ [b]).length ≤ 200; simp; omega, h1.tl, h1.zl, h1.same⟩
  · unfold Tab.putN; rw [← hf, ← e1, ← e2]
  · unfold Tab.putE; rw [← hf, ← e1, ← e2]
  · unfold Tab.putE
    by_cases hc : (T.find b).isSome ∨ T.rows.length < T.room
    · rw [if_pos hc]; exact Or.inl rfl
    · rw [if_neg hc]
      refine Or.inr ⟨rfl, ?_⟩
      have h4 := h.tr
      have h5 := h.len
      have h6 : T.room ≤ T.rows.length := by
        rcases Nat.lt_or_ge T.rows.length T.room with h7 | h7
        · exact absurd (Or.inr h7) hc
        · exact h7
      unfold Tab.put
      rw [if_pos (Or.inr h6)]
      show T.rows.length = 200
      omega
end Go.Proofs.Ytgfokmgbphhpjaa.St
