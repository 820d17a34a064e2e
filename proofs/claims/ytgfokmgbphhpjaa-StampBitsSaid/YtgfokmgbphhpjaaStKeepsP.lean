/- StampKeeps, one row: in plain terms. -/
import Derived.Test.YtgfokmgbphhpjaaStTwo
namespace Go.Proofs.Ytgfokmgbphhpjaa.St
open Go.RowKit
set_option linter.unusedVariables false
set_option linter.unusedSimpArgs false
/-- The two tables behind i rows. -/
structure KR (T Z : Tab) (i : Nat) : Prop where
  tr : T.room = 20000
  zr : Z.room = 20000
  zb : Z.bits = 0
  rows : T.rows = Z.rows
  nd : T.rows.Nodup
  len : T.rows.length ≤ i
  tl : T.looked ≤ 60000 * i
  zl : Z.looked ≤ 20000 * i
/-- What one row's round makes of them, and what it tells. -/
theorem keeps_step {T Z : Tab} {b : List Int} {i : Nat} (h : KR T Z i) (hi : i < 20000) {T1 T2 T3 Z1 : Tab} (e1 : T.after b = T1) (e2 : T1.put b = T2) (e3 : T2.after b = T3) (e4 : Z.put b = Z1) :
    KR T3 Z1 (i + 1) ∧ T1.looked ≤ 60000 * i + 20000 ∧ T2.looked ≤ 60000 * i + 40000 ∧ T1.putE b = 0 ∧ Z.putE b = 0 ∧ T3.rows = T2.rows ∧ ∃ k : Int, T1.putN b = k ∧ Z.putN b = k ∧ T2.find b = some k ∧ 0 ≤ k ∧ k < T3.rows.length ∧ T3.rows.getD k.toNat [] = b ∧
      ((T.find b = some k ∧ k < T.rows.length ∧ T3.rows.length = T.rows.length) ∨ (T.find b = none ∧ k = T.rows.length ∧ T3.rows.length = T.rows.length + 1)) := by
  have hZ := find_same (b := b) h.rows h.nd
  have hT1 : T1.rows = T.rows ∧ T1.bits = T.bits ∧ T1.room = T.room := by rw [← e1]; exact after_rows T b
  have hf1 : T1.find b = T.find b := find_same hT1.1 (by rw [hT1.1]; exact h.nd)
  have l1 : T1.looked ≤ T.looked + T.rows.length := by rw [← e1]; exact after_looked T b
  have l2 : (T1.after b).looked ≤ T1.looked + T1.rows.length := after_looked T1 b
  have l3 : (T2.after b).looked ≤ T2.looked + T2.rows.length := after_looked T2 b
  have l4 : (Z.after b).looked ≤ Z.looked + Z.rows.length := after_looked Z b
  obtain ⟨p1, p2, p3, p4⟩ := put_rows T1 b
  obtain ⟨z1, z2, z3, z4⟩ := put_rows Z b
  rw [e2] at p1 p2 p3 p4
  rw [e4] at z1 z2 z3 z4
  have hlen := h.len
  have htl := h.tl
  have hzl := h.zl
  have hzlen : Z.rows.length = T.rows.length := by rw [h.rows]
  have h3r : T3.rows = T2.rows := by rw [← e3]; rfl
  have h3o : T3.room = T2.room := by rw [← e3]; rfl
  have h3l : T3.looked = (T2.after b).looked := by rw [← e3]
  rw [hT1.1] at l2
  cases hfi : T.find b with
  | some k =>
    obtain ⟨k0, k1, k2⟩ := find_some hfi
    have hr2 : T2.rows = T.rows := by
      rw [← e2]; unfold Tab.put
      rw [if_pos (Or.inl (by rw [hf1, hfi]; rfl))]
      exact hT1.1
    have hz1 : Z1.rows = Z.rows := by
      rw [← e4]; unfold Tab.put
      rw [if_pos (Or.inl (by rw [← hZ, hfi]; rfl))]
      rfl
    have hf2 : T2.find b = some k := by rw [← hfi]; exact find_same hr2 (by rw [hr2]; exact h.nd)
    rw [hr2] at l3
    refine ⟨⟨by rw [h3o, p2, hT1.2.2]; exact h.tr, by rw [z2]; exact h.zr, by rw [z1]; exact h.zb, by rw [h3r, hr2, hz1]; exact h.rows, by rw [h3r, hr2]; exact h.nd, by rw [h3r, hr2]; omega, by omega, by omega⟩, by omega, by omega, ?_, ?_, h3r, k, ?_, ?_, hf2, k0, by rw [h3r, hr2]; exact k1, by rw [h3r, hr2]; exact k2, Or.inl ⟨rfl, k1, by rw [h3r, hr2]⟩⟩
    · unfold Tab.putE; rw [if_pos (Or.inl (by rw [hf1, hfi]; rfl))]
    · unfold Tab.putE; rw [if_pos (Or.inl (by rw [← hZ, hfi]; rfl))]
    · unfold Tab.putN; rw [hf1, hfi]
    · unfold Tab.putN; rw [← hZ, hfi]
  | none =>
    have hr1 : ¬ T1.room ≤ T1.rows.length := by rw [hT1.2.2, hT1.1, h.tr]; omega
    have hrz : ¬ Z.room ≤ Z.rows.length := by rw [h.zr]; omega
    have hr2 : T2.rows = T.rows ++ [b] := by
      rw [← e2]; unfold Tab.put
      rw [if_neg (by rw [hf1, hfi]; simp only [Option.isSome_none, Bool.false_eq_true, false_or]; exact hr1)]
      show T1.rows ++ [b] = _
      rw [hT1.1]
    have hz1 : Z1.rows = Z.rows ++ [b] := by
      rw [← e4]; unfold Tab.put
      rw [if_neg (by rw [← hZ, hfi]; simp only [Option.isSome_none, Bool.false_eq_true, false_or]; exact hrz)]
    have hnd : (T.rows ++ [b]).Nodup := nodup_put h.nd hfi
    have hlen2 : T2.rows.length = T.rows.length + 1 := by rw [hr2]; simp
    have hget : T2.rows.getD T.rows.length [] = b := by rw [hr2]; simp
    have hf2 : T2.find b = some (T.rows.length : Int) := by
      cases e : T2.find b with
      | none => exact absurd (by rw [hr2]; simp) (find_none.1 e)
      | some m =>
        obtain ⟨m0, m1, m2⟩ := find_some e
        have hm : m.toNat < T2.rows.length := by omega
        have hk : T.rows.length < T2.rows.length := by omega
        rw [← hr2] at hnd
        rw [List.getD_eq_getElem?_getD, List.getElem?_eq_getElem hm, Option.getD_some] at m2
        rw [List.getD_eq_getElem?_getD, List.getElem?_eq_getElem hk, Option.getD_some] at hget
        have := (List.getElem_inj hnd).1 (m2.trans hget.symm)
        congr 1
        omega
    refine ⟨⟨by rw [h3o, p2, hT1.2.2]; exact h.tr, by rw [z2]; exact h.zr, by rw [z1]; exact h.zb, by rw [h3r, hr2, hz1, h.rows], by rw [h3r, hr2]; exact hnd, by rw [h3r]; omega, by omega, by omega⟩, by omega, by omega, ?_, ?_, h3r, (T.rows.length : Int), ?_, ?_, hf2, by omega, by rw [h3r]; omega, by rw [h3r, Int.toNat_natCast]; exact hget, Or.inr ⟨rfl, rfl, by rw [h3r]; omega⟩⟩
    · unfold Tab.putE; rw [if_pos (Or.inr (by omega))]
    · unfold Tab.putE; rw [if_pos (Or.inr (by omega))]
    · unfold Tab.putN; rw [hf1, hfi]; show (if T1.room ≤ T1.rows.length then (0 : Int) else T1.rows.length) = _; rw [if_neg hr1, hT1.1]
    · unfold Tab.putN; rw [← hZ, hfi]; show (if Z.room ≤ Z.rows.length then (0 : Int) else Z.rows.length) = _; rw [if_neg hrz]; omega
theorem cell_old {W0 w : World} {a : Addr} {v : Value} (h : W0.cell? a = some v) (hb : Below W0.heap.size W0 w) : w.cell? a = some v := by
  rw [← h]
  exact World.cell?_of_block (hb.block a.block (World.block_lt_of_cell? W0 _ h))
end Go.Proofs.Ytgfokmgbphhpjaa.St
