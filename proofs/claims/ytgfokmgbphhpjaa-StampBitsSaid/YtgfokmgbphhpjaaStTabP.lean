/- What a table answers, by its rows alone. -/
import Derived.Test.YtgfokmgbphhpjaaStScan
namespace Go.Proofs.Ytgfokmgbphhpjaa.St
open Go.RowKit
set_option linter.unusedVariables false
set_option linter.unusedSimpArgs false
theorem idxs_of {b : Nat} {rows : List (List Int)} {i : Nat} (h : i < rows.length) : ((i : Nat) : Int) ∈ idxs b rows (stN b (rows.getD i [])) := by
  unfold idxs
  exact List.mem_map.2 ⟨i, List.mem_filter.2 ⟨List.mem_range.2 h, decide_eq_true rfl⟩, rfl⟩
theorem find_some {T : Tab} {b : List Int} {n : Int} (h : T.find b = some n) : 0 ≤ n ∧ n < T.rows.length ∧ T.rows.getD n.toNat [] = b := by
  obtain ⟨h1, h2⟩ := scan_some h
  obtain ⟨h3, h4⟩ := idxs_mem h1
  exact ⟨h3, h4, h2⟩
theorem find_none {T : Tab} {b : List Int} : T.find b = none ↔ b ∉ T.rows := by
  constructor
  · intro h hb
    obtain ⟨i, hi, e⟩ := List.getElem_of_mem hb
    have e2 : T.rows.getD i [] = b := by rw [List.getD_eq_getElem?_getD, List.getElem?_eq_getElem hi]; exact e
    have h1 := idxs_of (b := T.bits) hi
    rw [e2] at h1
    refine scan_none h _ h1 ?_
    rw [Int.toNat_natCast]
    exact e2
  · intro h
    cases e : T.find b with
    | none => rfl
    | some n =>
      obtain ⟨h1, h2, h3⟩ := find_some e
      refine absurd ?_ h
      rw [← h3, List.getD_eq_getElem?_getD, List.getElem?_eq_getElem (by omega)]
      exact List.getElem_mem _
/-- Two tables of the same rows, all different, answer alike. -/
theorem find_same {T T' : Tab} {b : List Int} (hr : T.rows = T'.rows) (hn : T.rows.Nodup) : T.find b = T'.find b := by
  cases e : T.find b with
  | none =>
    have h1 := find_none.1 e
    rw [hr] at h1
    exact (find_none.2 h1).symm
  | some n =>
    cases e' : T'.find b with
    | none =>
      have h1 := find_none.1 e'
      rw [← hr] at h1
      rw [find_none.2 h1] at e
      cases e
    | some m =>
      obtain ⟨a0, a1, a2⟩ := find_some e
      obtain ⟨b0, b1, b2⟩ := find_some e'
      rw [← hr] at b1 b2
      have hm : n.toNat < T.rows.length := by omega
      have hk : m.toNat < T.rows.length := by omega
      rw [List.getD_eq_getElem?_getD, List.getElem?_eq_getElem hm, Option.getD_some] at a2
      rw [List.getD_eq_getElem?_getD, List.getElem?_eq_getElem hk, Option.getD_some] at b2
      have := (List.getElem_inj hn).1 (a2.trans b2.symm)
      congr 1
      omega
theorem nodup_put {T : Tab} {b : List Int} (hn : T.rows.Nodup) (h : T.find b = none) : (T.rows ++ [b]).Nodup := by
  rw [List.nodup_append]
  refine ⟨hn, by simp, ?_⟩
  intro x hx y hy
  rw [List.mem_singleton] at hy
  subst hy
  intro e
  exact find_none.1 h (e ▸ hx)
end Go.Proofs.Ytgfokmgbphhpjaa.St
