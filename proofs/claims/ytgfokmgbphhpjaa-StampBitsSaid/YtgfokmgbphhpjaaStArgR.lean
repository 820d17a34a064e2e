/- A law's argument, a slice of rows of bytes, opened. -/
import Derived.Test.YtgfokmgbphhpjaaStArg
namespace Go.Proofs.Ytgfokmgbphhpjaa.StS
open Go.ChangeShapes Go.WideShapes Go.ChangeAt Go.RowKit Go.Joins Go.Deep
open Go.Proofs.YtgfokmgbphhpjaaW.PrintWords Go.Proofs.Ytgfokmgbphhpjaa.PStampSame
set_option linter.unusedVariables false
set_option linter.unusedSimpArgs false
section
variable {H : Type} {enc : TypeId × Value → H} {W : World} {base : Nat} {spare : Nat → Bool} {held : Bool}
theorem bytes5 : Try.prog.bytesOf 5 = 1 := by kernel_rfl
theorem bytes27 : Try.prog.bytesOf 27 = 24 := by kernel_rfl
theorem cells27 : Try.prog.cellsOf 27 = 1 := by kernel_rfl
theorem cells5 : Try.prog.cellsOf 5 = 1 := by kernel_rfl
theorem list1 {α : Type} {l : List α} (h : l.length = 1) : ∃ a, l = [a] := by
  match l, h with
  | [a], _ => exact ⟨a, rfl⟩
/-- A row of bytes. -/
theorem bytes_open (hsp : ∀ k, spare k = true) {fuel : Nat} {c : Value} {y : DataW H × List MemPlace} (hf : DataW.trod enc Try.prog W base spare held fuel 27 [c] = some y) (hw : ∀ m ∈ y.1.weights Try.prog 27, m ≤ reachBytes) :
    ∃ A l c', c = .slice A l.length c' ∧ Kd.C (Kd.int .u8) W A l.length l ∧ l.length ≤ c' ∧ l.length ≤ 140737488351232 ∧ ∀ x ∈ l, 0 ≤ x ∧ x < 256 := by
  rcases open_slice Try.underlying27 hf with ⟨hcs, _⟩ | ⟨a, len, cap, m, n, D, Pl, hcs, _, hlc, hcm, hm, hx, hel⟩
  · simp only [List.cons.injEq, and_true] at hcs
    exact ⟨none, [], 0, by rw [hcs]; rfl, ⟨rfl, by simp, by simp⟩, Nat.le_refl _, by simp, by simp⟩
  · simp only [List.cons.injEq, and_true] at hcs
    rw [hsp] at hm
    simp only [if_true] at hm
    subst hm
    subst hx
    have hlb : len ≤ 140737488351232 := by
      have := hw ((((List.range len).map D).length + ((List.range (m - len)).map fun j => D (len + j)).length) * Try.prog.bytesOf 5) (by simp [DataW.weights, Try.underlying27])
      rw [bytes5, List.length_map, List.length_map, List.length_range, List.length_range, show len + (m - len) = m from by omega] at this
      unfold reachBytes at this
      omega
    have hone : ∀ i, i < len → ∃ x : Int, (∃ cs, cs.length = 1 ∧ (Kd.int .u8).K W x cs ∧ ∀ j u, cs[j]? = some u → W.cell? (a.add (i * 1 + j)) = some u) ∧ 0 ≤ x ∧ x < 256 := by
      intro i hi
      obtain ⟨cs', hc', ht⟩ := hel i (by omega)
      rw [cells5] at hc'
      obtain ⟨_, hl3, hcell⟩ := World.cells?_some hc'
      obtain ⟨x0, e0, _, hwf⟩ := DataW.trod_int Try.underlying5 ht
      subst e0
      refine ⟨x0, ⟨_, rfl, rfl, fun j u hu => ?_⟩, Base.wf_u8 hwf⟩
      have hj : j < 1 := (List.getElem?_eq_some_iff.1 hu).1
      rw [← hu, ← hcell j hj, Addr.add_add]
    obtain ⟨l, hl, hp⟩ := pick_all len hone
    subst hl
    exact ⟨some a, l, m, hcs, ⟨rfl, by omega, fun _ => ⟨a, rfl, fun j p hj => (hp j p hj).1⟩⟩, hlc, hlb, fun x hx => by
      obtain ⟨i, hi⟩ := List.mem_iff_getElem?.1 hx
      exact (hp i x hi).2⟩
/-- A slice of rows of bytes. -/
theorem rows_open (hsp : ∀ k, spare k = true) {fuel : Nat} {c : Value} {y : DataW H × List MemPlace} (hf : DataW.trod enc Try.prog W base spare held fuel 35 [c] = some y) (hw : ∀ m ∈ y.1.weights Try.prog 35, m ≤ reachBytes) :
    ∃ A l c', c = .slice A l.length c' ∧ Kd.C (Kd.slice 5 (Kd.int .u8)) W A l.length l ∧ l.length ≤ c' ∧ l.length ≤ 5864062014634 ∧ ∀ r ∈ l, r.length ≤ 140737488351232 ∧ ∀ x ∈ r, 0 ≤ x ∧ x < 256 := by
  rcases open_slice Try.underlying35 hf with ⟨hcs, _⟩ | ⟨a, len, cap, m, n, D, Pl, hcs, _, hlc, hcm, hm, hx, hel⟩
  · simp only [List.cons.injEq, and_true] at hcs
    exact ⟨none, [], 0, by rw [hcs]; rfl, ⟨rfl, by simp, by simp⟩, Nat.le_refl _, by simp, by simp⟩
  · simp only [List.cons.injEq, and_true] at hcs
    rw [hsp] at hm
    simp only [if_true] at hm
    subst hm
    subst hx
    have hlb : len ≤ 5864062014634 := by
      have := hw ((((List.range len).map D).length + ((List.range (m - len)).map fun j => D (len + j)).length) * Try.prog.bytesOf 27) (by simp [DataW.weights, Try.underlying35])
      rw [bytes27, List.length_map, List.length_map, List.length_range, List.length_range, show len + (m - len) = m from by omega] at this
      unfold reachBytes at this
      omega
    have hone : ∀ i, i < len → ∃ x : List Int, (∃ cs, cs.length = 1 ∧ (Kd.slice 5 (Kd.int .u8)).K W x cs ∧ ∀ j u, cs[j]? = some u → W.cell? (a.add (i * 1 + j)) = some u) ∧ x.length ≤ 140737488351232 ∧ ∀ z ∈ x, 0 ≤ z ∧ z < 256 := by
      intro i hi
      obtain ⟨cs', hc', ht⟩ := hel i (by omega)
      rw [cells27] at hc'
      obtain ⟨_, hl3, hcell⟩ := World.cells?_some hc'
      obtain ⟨v, rfl⟩ := list1 hl3
      have hmem : D i ∈ (List.range len).map D := List.mem_map.2 ⟨i, List.mem_range.2 hi, rfl⟩
      obtain ⟨A2, l2, c2, rfl, hC2, hl2, hb2, hr2⟩ := bytes_open hsp ht (fun m' hm' => by
        refine hw m' ?_
        simp only [DataW.weights, Try.underlying35, List.mem_cons, List.mem_append]
        exact Or.inr (Or.inl (weights_elem hmem hm')))
      refine ⟨l2, ⟨_, rfl, ⟨A2, c2, rfl, hl2, hC2⟩, fun j u hu => ?_⟩, hb2, hr2⟩
      have hj : j < 1 := (List.getElem?_eq_some_iff.1 hu).1
      rw [← hu, ← hcell j hj, Addr.add_add]
    obtain ⟨l, hl, hp⟩ := pick_all len hone
    subst hl
    exact ⟨some a, l, m, hcs, ⟨rfl, by omega, fun _ => ⟨a, rfl, fun j p hj => (hp j p hj).1⟩⟩, hlc, hlb, fun x hx => by
      obtain ⟨i, hi⟩ := List.mem_iff_getElem?.1 hx
      exact (hp i x hi).2⟩
end
end Go.Proofs.Ytgfokmgbphhpjaa.StS
