/- The law's own alike, sameTold, anew, toldAnew in plain terms. -/
import Derived.Test.YtgfokmgbphhpjaaStSame
import Derived.Test.YtgfokmgbphhpjaaPStampSamex4
import Derived.Test.YtgfokmgbphhpjaaBase
namespace Go.Proofs.Ytgfokmgbphhpjaa.StS
open Go.RowKit Go.Proofs.YtgfokmgbphhpjaaW.PrintWords Go.Proofs.YtgfokmgbphhpjaaW.PrintLast Go.Proofs.YtgfokmgbphhpjaaW.PrintMore Go.Proofs.Ytgfokmgbphhpjaa.PStampSame Go.Proofs.Ytgfokmgbphhpjaa.Base
open Classical
set_option linter.unusedVariables false
set_option linter.unusedSimpArgs false
/-- Every list in a tree is short enough to be made anew. -/
def Bd : Nat → List S67 → Prop
  | 0, _ => False
  | n + 1, xs => xs.length < 3518437208883 ∧ ∀ x ∈ xs, Bd n x.f2
theorem all_fuel {α : Type} {P : α → Nat → Prop} (hP : ∀ x k k', k ≤ k' → P x k → P x k') (xs : List α) (h : ∀ x ∈ xs, ∃ K, P x K) : ∃ K, ∀ x ∈ xs, P x K := by
  induction xs with
  | nil => exact ⟨0, by simp⟩
  | cons x xs ih =>
    obtain ⟨K1, h1⟩ := h x List.mem_cons_self
    obtain ⟨K2, h2⟩ := ih (fun y hy => h y (List.mem_cons_of_mem _ hy))
    refine ⟨max K1 K2, fun y hy => ?_⟩
    rcases List.mem_cons.1 hy with rfl | hy
    · exact hP _ _ _ (Nat.le_max_left _ _) h1
    · exact hP _ _ _ (Nat.le_max_right _ _) (h2 y hy)
def AF (xs : List S67) (K : Nat) : Prop := ∀ k, K ≤ k → ∀ (f0 f1 g0 g1 : Int) (ys : List S67), organonlaw11_alike.f k f0 f1 xs g0 g1 ys = some (decide (f0 = g0 ∧ f1 = g1 ∧ xs = ys))
theorem alike_l0 (xs ys : List S67) (K : Nat) (hK : ∀ x ∈ xs, AF x.f2 K) (hl : xs.length = ys.length) (hb : xs.length < 3518437208883) (f0 f1 g0 g1 : Int) (d : Nat) : ∀ (i k : Nat), i + d = xs.length → K + d < k → xs.take i = ys.take i →
    organonlaw11_alike.l0 k i f0 f1 xs g0 g1 ys = some (decide (xs = ys)) := by
  induction d with
  | zero =>
    intro i k h hk ht
    obtain ⟨k, rfl⟩ : ∃ m, k = m + 1 := ⟨k - 1, by omega⟩
    simp only [organonlaw11_alike.l0]
    rw [if_neg (by omega), decide_eq_true]
    have e : i = xs.length := by omega
    rw [e, List.take_length] at ht
    rw [ht, hl, List.take_length]
  | succ d ih =>
    intro i k h hk ht
    obtain ⟨k, rfl⟩ : ∃ m, k = m + 1 := ⟨k - 1, by omega⟩
    have h1 : i < xs.length := by omega
    have h2 : i < ys.length := by omega
    simp only [organonlaw11_alike.l0]
    rw [if_pos (by omega), if_pos (by omega), if_pos (by omega), rd_get h1, rd_get h2, hK xs[i] (List.getElem_mem h1) k (by omega)]
    simp only [some_bind]
    by_cases he : xs[i].f0 = ys[i].f0 ∧ xs[i].f1 = ys[i].f1 ∧ xs[i].f2 = ys[i].f2
    · rw [decide_eq_true he, if_pos rfl, wrap64_id (by omega) (by omega), show (i : Int) + 1 = ((i + 1 : Nat) : Int) from by omega]
      exact ih (i + 1) k (by omega) (by omega) (take_same ht h1 h2 ((s67_eq _ _).2 he))
    · rw [decide_eq_false he, if_neg Bool.false_ne_true, decide_eq_false]
      intro e
      refine he ((s67_eq _ _).1 ?_)
      simp only [e]
theorem alike_f (n : Nat) : ∀ xs, Bd n xs → ∃ K, AF xs K := by
  induction n with
  | zero => intro xs h; exact h.elim
  | succ n ih =>
    intro xs h
    obtain ⟨hl, hk⟩ := h
    obtain ⟨K, hK⟩ := all_fuel (P := fun (x : S67) K => AF x.f2 K) (fun (x : S67) k k' hkk h j hj => h j (Nat.le_trans hkk hj)) xs (fun x hx => ih x.f2 (hk x hx))
    refine ⟨K + xs.length + 4, fun k hk f0 f1 g0 g1 ys => ?_⟩
    obtain ⟨k, rfl⟩ : ∃ m, k = m + 1 + 1 := ⟨k - 2, by omega⟩
    simp only [organonlaw11_alike.f, organonlaw11_alike.j0]
    by_cases e0 : f0 = g0
    · by_cases e1 : f1 = g1
      · rw [if_pos e0, if_pos e1]
        by_cases e2 : xs.length = ys.length
        · have hb : ((xs.length : Int) != (ys.length : Int)) = false := by simp [e2]
          rw [hb, if_neg Bool.false_ne_true]
          have := alike_l0 xs ys K hK e2 hl f0 f1 g0 g1 xs.length 0 k (by omega) (by omega) rfl
          refine Eq.trans this ?_
          simp [e0, e1]
        · have hb : ((xs.length : Int) != (ys.length : Int)) = true := by simp; omega
          rw [hb, if_pos rfl, decide_eq_false]
          exact fun e => e2 (by rw [e.2.2])
      · rw [if_pos e0, if_neg e1, if_pos trivial, decide_eq_false]
        exact fun e => e1 e.2.1
    · rw [if_neg e0, if_pos trivial, decide_eq_false]
      exact fun e => e0 e.1
/-- What is told: its trees. -/
def BdT (n : Nat) (l : List S69) : Prop := l.length < 2199023255552 ∧ ∀ x ∈ l, Bd n x.f2.f2
theorem same_l0 (xs ys : List S69) (K : Nat) (hK : ∀ x ∈ xs, AF x.f2.f2 K) (hl : xs.length = ys.length) (hb : xs.length < 2199023255552) (d : Nat) : ∀ (i k : Nat), i + d = xs.length → K + d < k → xs.take i = ys.take i →
    organonlaw11_sameTold.l0 k xs ys i = some (decide (xs = ys)) := by
  induction d with
  | zero =>
    intro i k h hk ht
    obtain ⟨k, rfl⟩ : ∃ m, k = m + 1 := ⟨k - 1, by omega⟩
    simp only [organonlaw11_sameTold.l0]
    rw [if_neg (by omega), decide_eq_true]
    have e : i = xs.length := by omega
    rw [e, List.take_length] at ht
    rw [ht, hl, List.take_length]
  | succ d ih =>
    intro i k h hk ht
    obtain ⟨k, rfl⟩ : ∃ m, k = m + 1 := ⟨k - 1, by omega⟩
    have h1 : i < xs.length := by omega
    have h2 : i < ys.length := by omega
    simp only [organonlaw11_sameTold.l0]
    rw [if_pos (by omega), if_pos (by omega), if_pos (by omega), rd_get9 h1, rd_get9 h2]
    have hno : xs[i] ≠ ys[i] → decide (xs = ys) = false := fun hne => decide_eq_false (fun e => hne (by simp only [e]))
    by_cases e0 : xs[i].f0.toList = ys[i].f0.toList
    · rw [if_pos e0]
      have e0' : xs[i].f0 = ys[i].f0 := by
        rw [ByteArray.toList_eq, ByteArray.toList_eq] at e0
        exact ByteArray.ext (Array.toList_inj.1 e0)
      by_cases e1 : xs[i].f1 = ys[i].f1
      · have hb : (xs[i].f1 != ys[i].f1) = false := by simp [e1]
        rw [hb, if_neg Bool.false_ne_true, hK xs[i] (List.getElem_mem h1) k (by omega)]
        simp only [some_bind]
        by_cases he : xs[i].f2.f0 = ys[i].f2.f0 ∧ xs[i].f2.f1 = ys[i].f2.f1 ∧ xs[i].f2.f2 = ys[i].f2.f2
        · rw [decide_eq_true he, if_pos rfl, wrap64_id (by omega) (by omega), show (i : Int) + 1 = ((i + 1 : Nat) : Int) from by omega]
          exact ih (i + 1) k (by omega) (by omega) (take_same ht h1 h2 ((s69_eq _ _).2 ⟨e0', e1, he⟩))
        · rw [decide_eq_false he, if_neg Bool.false_ne_true, hno]
          exact fun e => he ((s69_eq _ _).1 e).2.2
      · have hb : (xs[i].f1 != ys[i].f1) = true := by simp [e1]
        rw [hb, if_pos rfl, hno]
        exact fun e => e1 ((s69_eq _ _).1 e).2.1
    · rw [if_neg e0, hno]
      exact fun e => e0 (by rw [e])
theorem sameTold_f {n : Nat} {xs : List S69} (h : BdT n xs) (ys : List S69) : ∃ k, organonlaw11_sameTold.f k xs ys = some (decide (xs = ys)) := by
  obtain ⟨K, hK⟩ := all_fuel (P := fun (x : S69) K => AF x.f2.f2 K) (fun (x : S69) k k' hkk h j hj => h j (Nat.le_trans hkk hj)) xs (fun x hx => alike_f n x.f2.f2 (h.2 x hx))
  refine ⟨K + xs.length + 1, ?_⟩
  unfold organonlaw11_sameTold.f
  by_cases e : xs.length = ys.length
  · rw [if_pos (by omega)]
    exact same_l0 xs ys K hK e h.1 xs.length 0 _ (by omega) (by omega) rfl
  · rw [if_neg (by omega), decide_eq_false]
    exact fun e2 => e (by rw [e2])
theorem eta67 (x : S67) : (⟨x.f0, x.f1, x.f2⟩ : S67) = x := by cases x; rfl
def NF (xs : List S67) (K : Nat) : Prop := ∀ k, K ≤ k → ∀ (f0 f1 : Int), organonlaw11_anew.f k f0 f1 xs = some (f0, f1, xs)
theorem anew_l0 (xs : List S67) (K : Nat) (hK : ∀ x ∈ xs, NF x.f2 K) (hb : xs.length < 3518437208883) (f0 f1 : Int) (d : Nat) : ∀ (i k : Nat), i + d = xs.length → K + d < k →
    organonlaw11_anew.l0 k i f0 f1 xs f0 f1 (xs.take i) = some (f0, f1, xs) := by
  induction d with
  | zero =>
    intro i k h hk
    obtain ⟨k, rfl⟩ : ∃ m, k = m + 1 := ⟨k - 1, by omega⟩
    simp only [organonlaw11_anew.l0]
    rw [if_neg (by omega), show i = xs.length from by omega, List.take_length]
  | succ d ih =>
    intro i k h hk
    obtain ⟨k, rfl⟩ : ∃ m, k = m + 1 := ⟨k - 1, by omega⟩
    have h1 : i < xs.length := by omega
    simp only [organonlaw11_anew.l0]
    rw [if_pos (by omega), if_pos (by omega), rd_get h1, hK xs[i] (List.getElem_mem h1) k (by omega)]
    simp only [some_bind]
    rw [if_pos (by rw [List.length_take]; omega), wrap64_id (by omega) (by omega), show (i : Int) + 1 = ((i + 1 : Nat) : Int) from by omega]
    have := ih (i + 1) k (by omega) (by omega)
    rw [List.take_succ_eq_append_getElem h1] at this
    rw [eta67]
    exact this
theorem anew_f (n : Nat) : ∀ xs, Bd n xs → ∃ K, NF xs K := by
  induction n with
  | zero => intro xs h; exact h.elim
  | succ n ih =>
    intro xs h
    obtain ⟨hl, hk⟩ := h
    obtain ⟨K, hK⟩ := all_fuel (P := fun (x : S67) K => NF x.f2 K) (fun (x : S67) k k' hkk h j hj => h j (Nat.le_trans hkk hj)) xs (fun x hx => ih x.f2 (hk x hx))
    refine ⟨K + xs.length + 4, fun k hk f0 f1 => ?_⟩
    obtain ⟨k, rfl⟩ : ∃ m, k = m + 1 := ⟨k - 1, by omega⟩
    simp only [organonlaw11_anew.f]
    exact anew_l0 xs K hK hl f0 f1 xs.length 0 k (by omega) (by omega)
theorem told_l0 (xs : List S69) (K : Nat) (hK : ∀ x ∈ xs, NF x.f2.f2 K) (hb : xs.length < 2199023255552) (d : Nat) : ∀ (i k : Nat), i + d = xs.length → K + d < k →
    organonlaw11_toldAnew.l0 k xs (xs.take i) i = some xs := by
  induction d with
  | zero =>
    intro i k h hk
    obtain ⟨k, rfl⟩ : ∃ m, k = m + 1 := ⟨k - 1, by omega⟩
    simp only [organonlaw11_toldAnew.l0]
    rw [if_neg (by omega), show i = xs.length from by omega, List.take_length]
  | succ d ih =>
    intro i k h hk
    obtain ⟨k, rfl⟩ : ∃ m, k = m + 1 := ⟨k - 1, by omega⟩
    have h1 : i < xs.length := by omega
    simp only [organonlaw11_toldAnew.l0]
    rw [if_pos (by omega), if_pos (by omega), rd_get9 h1, hK xs[i] (List.getElem_mem h1) k (by omega)]
    simp only [some_bind]
    rw [if_pos (by rw [List.length_take]; omega), wrap64_id (by omega) (by omega), show (i : Int) + 1 = ((i + 1 : Nat) : Int) from by omega]
    have := ih (i + 1) k (by omega) (by omega)
    rw [List.take_succ_eq_append_getElem h1] at this
    rw [eta67]
    exact this
theorem toldAnew_f {n : Nat} {xs : List S69} (h : BdT n xs) : ∃ k, organonlaw11_toldAnew.f k xs = some xs := by
  obtain ⟨K, hK⟩ := all_fuel (P := fun (x : S69) K => NF x.f2.f2 K) (fun (x : S69) k k' hkk h j hj => h j (Nat.le_trans hkk hj)) xs (fun x hx => anew_f n x.f2.f2 (h.2 x hx))
  refine ⟨K + xs.length + 1, ?_⟩
  unfold organonlaw11_toldAnew.f
  exact told_l0 xs K hK h.1 xs.length 0 _ (by omega) (by omega)
end Go.Proofs.Ytgfokmgbphhpjaa.StS
