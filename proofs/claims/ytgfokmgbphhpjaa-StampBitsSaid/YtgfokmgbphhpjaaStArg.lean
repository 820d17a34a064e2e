/- A law's argument, a slice of what is told, opened: what it reads as, and how long its lists are. -/
import Derived.Test.YtgfokmgbphhpjaaStLawSame
import Derived.SizedLaws
import Derived.Lib.SmallJoins
import Derived.Deep.Strs
namespace Go.Proofs.Ytgfokmgbphhpjaa.StS
open Go.ChangeShapes Go.WideShapes Go.ChangeAt Go.RowKit Go.Joins Go.Deep
open Go.Proofs.YtgfokmgbphhpjaaW.PrintWords Go.Proofs.Ytgfokmgbphhpjaa.PStampSame
set_option linter.unusedVariables false
set_option linter.unusedSimpArgs false
theorem Bd_mono (n : Nat) : ∀ m, n ≤ m → ∀ xs, Bd n xs → Bd m xs := by
  induction n with
  | zero => intro m _ xs h; exact h.elim
  | succ n ih =>
    intro m hm xs h
    obtain ⟨m, rfl⟩ : ∃ j, m = j + 1 := ⟨m - 1, by omega⟩
    exact ⟨h.1, fun x hx => ih m (by omega) x.f2 (h.2 x hx)⟩
theorem pick_all {α : Type} {P : Nat → α → Prop} (n : Nat) (h : ∀ i, i < n → ∃ x, P i x) : ∃ l : List α, l.length = n ∧ ∀ i x, l[i]? = some x → P i x := by
  induction n with
  | zero => exact ⟨[], rfl, by simp⟩
  | succ n ih =>
    obtain ⟨l, hl, hp⟩ := ih (fun i hi => h i (by omega))
    obtain ⟨x, hx⟩ := h n (by omega)
    refine ⟨l ++ [x], by simp [hl], fun i y hy => ?_⟩
    rcases Nat.lt_or_ge i l.length with h1 | h1
    · rw [List.getElem?_append_left h1] at hy
      exact hp i y hy
    · rw [List.getElem?_append_right h1] at hy
      have : i - l.length = 0 := by
        rcases Nat.eq_zero_or_pos (i - l.length) with h2 | h2
        · exact h2
        · rw [List.getElem?_eq_none (by simp; omega)] at hy; cases hy
      rw [this] at hy
      obtain rfl : x = y := by simpa using hy
      rw [show i = n from by omega]
      exact hx
section
variable {H : Type} {enc : TypeId × Value → H} {W : World} {base : Nat} {spare : Nat → Bool} {held : Bool}
theorem weights_elem {P : Program} {e : TypeId} {D : DataW H} {l : List (DataW H)} (h : D ∈ l) {m : Nat} (hm : m ∈ D.weights P e) : m ∈ DataW.weightsAll P e l := by
  induction l with
  | nil => cases h
  | cons d l ih =>
    simp only [DataW.weightsAll, List.mem_append]
    rcases List.mem_cons.1 h with rfl | h
    · exact Or.inl hm
    · exact Or.inr (ih h)
theorem bytes67 : Try.prog.bytesOf 67 = 40 := by kernel_rfl
theorem bytes69 : Try.prog.bytesOf 69 = 64 := by kernel_rfl
theorem cells67 : Try.prog.cellsOf 67 = 3 := by kernel_rfl
theorem cells69 : Try.prog.cellsOf 69 = 5 := by kernel_rfl
theorem cells3 : Try.prog.cellsOf 3 = 1 := by kernel_rfl
theorem cells65 : Try.prog.cellsOf 65 = 1 := by kernel_rfl
theorem cells9 : Try.prog.cellsOf 9 = 1 := by kernel_rfl
theorem cells4 : Try.prog.cellsOf 4 = 1 := by kernel_rfl
theorem list3 {α : Type} {l : List α} (h : l.length = 3) : ∃ a b c, l = [a, b, c] := by
  match l, h with
  | [a, b, c], _ => exact ⟨a, b, c, rfl⟩
theorem reach_le {n : Nat} (h : n * 40 ≤ reachBytes) : n < 3518437208883 := by
  unfold reachBytes at h; omega
theorem reach_le9 {n : Nat} (h : n * 64 ≤ reachBytes) : n < 2199023255552 := by
  unfold reachBytes at h; omega
/-- A slice of expressions. -/
theorem exprs_open (hsp : ∀ k, spare k = true) (N : Nat) : ∀ (fuel : Nat) (c : Value) (y : DataW H × List MemPlace), SizeOf.sizeOf y.1 < N → DataW.trod enc Try.prog W base spare held fuel 65 [c] = some y → (∀ m ∈ y.1.weights Try.prog 65, m ≤ reachBytes) →
    ∃ A l c', c = .slice A l.length c' ∧ Kd.C k67 W A l.length l ∧ l.length ≤ c' ∧ ∃ n, Bd n l := by
  induction N with
  | zero => intro fuel c y h; exact absurd h (Nat.not_lt_zero _)
  | succ N ih =>
    intro fuel c y hN hf hw
    rcases open_slice Try.underlying65 hf with ⟨hcs, _⟩ | ⟨a, len, cap, m, n, D, Pl, hcs, _, hlc, hcm, hm, hx, hel⟩
    · simp only [List.cons.injEq, and_true] at hcs
      exact ⟨none, [], 0, by rw [hcs]; rfl, ⟨rfl, by simp, by simp⟩, Nat.le_refl _, 1, by simp [Bd]⟩
    · simp only [List.cons.injEq, and_true] at hcs
      rw [hsp] at hm
      simp only [if_true] at hm
      subst hm
      subst hx
      have hlb : len < 3518437208883 := by
        have := hw ((((List.range len).map D).length + ((List.range (m - len)).map fun j => D (len + j)).length) * Try.prog.bytesOf 67) (by simp [DataW.weights, Try.underlying65])
        rw [bytes67, List.length_map, List.length_map, List.length_range, List.length_range, show len + (m - len) = m from by omega] at this
        exact Nat.lt_of_le_of_lt hlc (reach_le this)
      have hone : ∀ i, i < len → ∃ x : S67, (∃ cs, cs.length = 3 ∧ k67.K W x cs ∧ ∀ j u, cs[j]? = some u → W.cell? (a.add (i * 3 + j)) = some u) ∧ ∃ n, Bd n x.f2 := by
        intro i hi
        obtain ⟨cs', hc', ht⟩ := hel i (by omega)
        rw [cells67] at hc'
        obtain ⟨_, hl3, hcell⟩ := World.cells?_some hc'
        obtain ⟨y0, y1, y2, n2, hx, _, h0, h1, h2⟩ := trod_struct3 Try.underlying67 ht
        obtain ⟨v0, v1, v2, rfl⟩ := list3 hl3
        simp only [cells3, cells65, List.drop_succ_cons, List.drop_zero, List.take_succ_cons, List.take_zero] at h0 h1 h2
        obtain ⟨x0, e0, _, _⟩ := DataW.trod_int Try.underlying3 h0
        obtain ⟨x1, e1, _, _⟩ := DataW.trod_int Try.underlying3 h1
        simp only [List.cons.injEq, and_true] at e0 e1
        subst e0 e1
        have hD : D i = .agg [y0.1, y1.1, y2.1] := (Prod.mk.inj hx).1
        have hmem : D i ∈ (List.range len).map D := List.mem_map.2 ⟨i, List.mem_range.2 hi, rfl⟩
        obtain ⟨A2, l2, c2, rfl, hC2, hl2, hB2⟩ := ih n2 v2 y2 (by
          have s1 := List.sizeOf_lt_of_mem hmem
          have s2 : SizeOf.sizeOf y2.1 < SizeOf.sizeOf (D i) := by
            rw [hD]
            have := List.sizeOf_lt_of_mem (show y2.1 ∈ [y0.1, y1.1, y2.1] by simp)
            simp only [DataW.agg.sizeOf_spec]
            omega
          simp only [DataW.slice.sizeOf_spec] at hN
          omega) h2 (fun m' hm' => by
            refine hw m' ?_
            simp only [DataW.weights, Try.underlying65, List.mem_cons, List.mem_append]
            refine Or.inr (Or.inl (weights_elem hmem ?_))
            rw [hD]
            simp [DataW.weights, Try.underlying67, DataW.weightsEach, hm'])
        refine ⟨⟨x0, x1, l2⟩, ⟨_, rfl, k67_mk W ⟨x0, x1, l2⟩ hl2 hC2, fun j u hu => ?_⟩, hB2⟩
        have hj : j < 3 := (List.getElem?_eq_some_iff.1 hu).1
        rw [← hu, ← hcell j hj, Addr.add_add]
      obtain ⟨l, hl, hp⟩ := pick_all len hone
      obtain ⟨K, hK⟩ := all_fuel (P := fun (x : S67) K => Bd K x.f2) (fun x k k' hk h => Bd_mono k k' hk x.f2 h) l (fun x hx => by
        obtain ⟨i, hi⟩ := List.mem_iff_getElem?.1 hx
        exact (hp i x hi).2)
      subst hl
      exact ⟨some a, l, m, hcs, ⟨rfl, by omega, fun _ => ⟨a, rfl, fun j p hj => (hp j p hj).1⟩⟩, hlc, K + 1, hlb, hK⟩
theorem list5 {α : Type} {l : List α} (h : l.length = 5) : ∃ a b c d e, l = [a, b, c, d, e] := by
  match l, h with
  | [a, b, c, d, e], _ => exact ⟨a, b, c, d, e, rfl⟩
/-- A slice of what is told. -/
theorem told_open (hsp : ∀ k, spare k = true) {fuel : Nat} {c : Value} {y : DataW H × List MemPlace} (hf : DataW.trod enc Try.prog W base spare held fuel 22 [c] = some y) (hw : ∀ m ∈ y.1.weights Try.prog 22, m ≤ reachBytes) :
    ∃ A l c', c = .slice A l.length c' ∧ Kd.C k69 W A l.length l ∧ l.length ≤ c' ∧ ∃ n, BdT n l := by
  rcases open_slice Try.underlying22 hf with ⟨hcs, _⟩ | ⟨a, len, cap, m, n, D, Pl, hcs, _, hlc, hcm, hm, hx, hel⟩
  · simp only [List.cons.injEq, and_true] at hcs
    exact ⟨none, [], 0, by rw [hcs]; rfl, ⟨rfl, by simp, by simp⟩, Nat.le_refl _, 1, by simp [BdT]⟩
  · simp only [List.cons.injEq, and_true] at hcs
    rw [hsp] at hm
    simp only [if_true] at hm
    subst hm
    subst hx
    have hlb : len < 2199023255552 := by
      have := hw ((((List.range len).map D).length + ((List.range (m - len)).map fun j => D (len + j)).length) * Try.prog.bytesOf 69) (by simp [DataW.weights, Try.underlying22])
      rw [bytes69, List.length_map, List.length_map, List.length_range, List.length_range, show len + (m - len) = m from by omega] at this
      exact Nat.lt_of_le_of_lt hlc (reach_le9 this)
    have hone : ∀ i, i < len → ∃ x : S69, (∃ cs, cs.length = 5 ∧ k69.K W x cs ∧ ∀ j u, cs[j]? = some u → W.cell? (a.add (i * 5 + j)) = some u) ∧ ∃ n, Bd n x.f2.f2 := by
      intro i hi
      obtain ⟨cs', hc', ht⟩ := hel i (by omega)
      rw [cells69] at hc'
      obtain ⟨_, hl3, hcell⟩ := World.cells?_some hc'
      obtain ⟨y0, y1, y2, n2, hx, _, h0, h1, h2⟩ := trod_struct3 Try.underlying69 ht
      obtain ⟨v0, v1, v2, v3, v4, rfl⟩ := list5 hl3
      simp only [cells9, cells4, cells67, List.drop_succ_cons, List.drop_zero, List.take_succ_cons, List.take_zero] at h0 h1 h2
      obtain ⟨x0, e0, _, _⟩ := DataW.trod_string Try.underlying9 h0
      obtain ⟨x1, e1, _⟩ := DataW.trod_bool Try.underlying4 h1
      obtain ⟨z0, z1, z2, n3, hz, _, k0, k1, k2⟩ := trod_struct3 Try.underlying67 h2
      simp only [cells3, cells65, List.drop_succ_cons, List.drop_zero, List.take_succ_cons, List.take_zero] at k0 k1 k2
      obtain ⟨x2, e2, _, _⟩ := DataW.trod_int Try.underlying3 k0
      obtain ⟨x3, e3, _, _⟩ := DataW.trod_int Try.underlying3 k1
      simp only [List.cons.injEq, and_true] at e0 e1 e2 e3
      subst e0 e1 e2 e3
      have hD : D i = .agg [y0.1, y1.1, y2.1] := (Prod.mk.inj hx).1
      have hZ : y2.1 = .agg [z0.1, z1.1, z2.1] := by rw [hz]
      have hmem : D i ∈ (List.range len).map D := List.mem_map.2 ⟨i, List.mem_range.2 hi, rfl⟩
      obtain ⟨A2, l2, c2, rfl, hC2, hl2, hB2⟩ := exprs_open hsp _ n3 v4 z2 (Nat.lt_succ_self _) k2 (fun m' hm' => by
          refine hw m' ?_
          simp only [DataW.weights, Try.underlying22, List.mem_cons, List.mem_append]
          refine Or.inr (Or.inl (weights_elem hmem ?_))
          rw [hD, hZ]
          simp [DataW.weights, Try.underlying69, Try.underlying67, DataW.weightsEach, hm'])
      refine ⟨⟨x0, x1, ⟨x2, x3, l2⟩⟩, ⟨_, rfl, k69_mk W ⟨x0, x1, ⟨x2, x3, l2⟩⟩ hl2 hC2, fun j u hu => ?_⟩, hB2⟩
      have hj : j < 5 := (List.getElem?_eq_some_iff.1 hu).1
      rw [← hu, ← hcell j hj, Addr.add_add]
    obtain ⟨l, hl, hp⟩ := pick_all len hone
    obtain ⟨K, hK⟩ := all_fuel (P := fun (x : S69) K => Bd K x.f2.f2) (fun x k k' hk h => Bd_mono k k' hk x.f2.f2 h) l (fun x hx => by
      obtain ⟨i, hi⟩ := List.mem_iff_getElem?.1 hx
      exact (hp i x hi).2)
    subst hl
    exact ⟨some a, l, m, hcs, ⟨rfl, by omega, fun _ => ⟨a, rfl, fun j p hj => (hp j p hj).1⟩⟩, hlc, K, hlb, hK⟩
end
end Go.Proofs.Ytgfokmgbphhpjaa.StS
