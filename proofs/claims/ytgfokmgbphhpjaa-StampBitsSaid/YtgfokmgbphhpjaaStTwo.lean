/- Two tables side by side, and the argument's rows: the methods' contracts. -/
import Derived.Test.YtgfokmgbphhpjaaStAwake
import Derived.Test.YtgfokmgbphhpjaaStTabQ
namespace Go.Proofs.Ytgfokmgbphhpjaa.St
open Go.RowKit Go.Proofs.YtgfokmgbphhpjaaW.PrintWords Go.Proofs.YtgfokmgbphhpjaaW.PrintLast Go.Proofs.YtgfokmgbphhpjaaW.PrintMore Go.Proofs.Ytgfokmgbphhpjaa.PStampKeeps
open Go.Maps Go.WideElems Go.MapKept Go.ChangeMaps Go.ChangeShapes
set_option linter.unusedVariables false
set_option linter.unusedSimpArgs false
/-- A table whose blocks lie from base on. -/
def Has (w : World) (base pt : Nat) (T : Tab) (F : Nat → Prop) : Prop := (∃ bm vr FR FG D, IsT w pt T F bm vr FR FG D) ∧ (∀ k, F k → base ≤ k) ∧ T.same ≤ T.looked
theorem Has.other {w w' : World} {base pt : Nat} {T : Tab} {F G : Nat → Prop} (h : Has w base pt T F) (hf : Far G w w') (hd : ∀ k, F k → ¬ G k) : Has w' base pt T F := by
  obtain ⟨⟨bm, vr, FR, FG, D, hI⟩, hb, hs⟩ := h
  exact ⟨⟨bm, vr, FR, FG, D, hI.move (fun k hk => hf.block k (hI.lt k hk) (hd k hk)) hf.size⟩, hb, hs⟩
theorem Has.lt {w : World} {base pt : Nat} {T : Tab} {F : Nat → Prop} (h : Has w base pt T F) : ∀ k, F k → k < w.heap.size := by
  obtain ⟨⟨bm, vr, FR, FG, D, hI⟩, hb, hs⟩ := h
  exact hI.lt
/-- Where a row's bytes lie: in an older block. -/
theorem row_old {q : IntKind} {w : World} {A : Option Addr} {n : Nat} {xs : List Int} (h : Kd.C (Kd.int q) w A n xs) : xs ≠ [] → ∀ ad, A = some ad → ad.block < w.heap.size := by
  intro hne ad e
  have hn : 0 < n := by
    have h1 := h.1
    cases xs with
    | nil => exact absurd rfl hne
    | cons x xs => rw [← h1]; simp
  obtain ⟨ad', e', hc⟩ := h.2.2 hn
  rw [e] at e'
  obtain rfl := Option.some.inj e'
  cases xs with
  | nil => exact absurd rfl hne
  | cons x xs =>
    obtain ⟨cs, h1, h2, h3⟩ := hc 0 x rfl
    have h4 : cs[0]? = some (.int q x) := by
      have h2' : cs = [.int q x] := h2
      rw [h2']; rfl
    have h5 := World.block_lt_of_cell? w _ (h3 0 _ h4)
    have hb : ∀ k, (ad.add k).block = ad.block := fun k => by unfold Addr.add; split <;> rfl
    rw [hb] at h5
    exact h5
def Tab.put (T : Tab) (b : List Int) : Tab := if (T.find b).isSome ∨ T.room ≤ T.rows.length then T.after b else { T.after b with rows := T.rows ++ [b] }
def Tab.putN (T : Tab) (b : List Int) : Int := match T.find b with | some n => n | none => if T.room ≤ T.rows.length then 0 else T.rows.length
def Tab.putE (T : Tab) (b : List Int) : Int := if (T.find b).isSome ∨ T.rows.length < T.room then 0 else 60
theorem after_rows (T : Tab) (b : List Int) : (T.after b).rows = T.rows ∧ (T.after b).bits = T.bits ∧ (T.after b).room = T.room := ⟨rfl, rfl, rfl⟩
theorem put_rows (T : Tab) (b : List Int) : (T.put b).bits = T.bits ∧ (T.put b).room = T.room ∧ (T.put b).looked = (T.after b).looked ∧ (T.put b).same = (T.after b).same := by
  unfold Tab.put
  split <;> exact ⟨rfl, rfl, rfl, rfl⟩
/-- Two tables from base on, nothing in common; what is older is as it was. -/
def Two (W0 w : World) (p1 p2 : Nat) (T Z : Tab) : Prop := ∃ F1 F2, Has w W0.heap.size p1 T F1 ∧ Has w W0.heap.size p2 Z F2 ∧ (∀ k, F1 k → ¬ F2 k) ∧ Below W0.heap.size W0 w
section
variable {W0 w : World} {p1 p2 : Nat} {T Z : Tab}
theorem Two.swap (h : Two W0 w p1 p2 T Z) : Two W0 w p2 p1 Z T := by
  obtain ⟨F1, F2, h1, h2, h3, h4⟩ := h
  exact ⟨F2, F1, h2, h1, fun k hk hk' => h3 k hk' hk, h4⟩
theorem Two.below (h : Two W0 w p1 p2 T Z) : Below W0.heap.size W0 w := by
  obtain ⟨F1, F2, h1, h2, h3, h4⟩ := h
  exact h4
theorem Two.of_below {w' : World} (h : Two W0 w p1 p2 T Z) (hb : Below w.heap.size w w') : Two W0 w' p1 p2 T Z := by
  obtain ⟨F1, F2, h1, h2, h3, h4⟩ := h
  exact ⟨F1, F2, h1.other (Far.of_below (F := fun _ => False) hb) (fun _ _ h => h), h2.other (Far.of_below (F := fun _ => False) hb) (fun _ _ h => h), h3, h4.trans (hb.mono h4.size)⟩
theorem Two.move {F1 F2 F' : Nat → Prop} {T' : Tab} {w' : World} (h2 : Has w W0.heap.size p2 Z F2) (hd : ∀ k, F1 k → ¬ F2 k) (hb : Below W0.heap.size W0 w) (hF : ∀ k, F1 k → W0.heap.size ≤ k) (h : Has w' W0.heap.size p1 T' F') (hf : Far F1 w w') (hn : ∀ k, F' k → F1 k ∨ w.heap.size ≤ k) : Two W0 w' p1 p2 T' Z :=
  ⟨F', F2, h, h2.other hf (fun k h1 h3 => hd k h3 h1), fun k hk h3 => (hn k hk).elim (fun h4 => hd k h4 h3) (fun h4 => by have := h2.lt k h3; omega), hf.below hb hF hb.size⟩
variable (A : Option Addr) (c : Nat) (b : List Int) (hC : Kd.C (Kd.int .u8) W0 A b.length b) (hc : b.length ≤ c) (hl : b.length ≤ 140737488351232) (hr : ∀ x ∈ b, 0 ≤ x ∧ x < 256)
include hC hc hl hr
theorem two_find (h : Two W0 w p1 p2 T Z) (hlk : T.looked < 4611686018427387904) :
    Calls Try.prog 20 #[ptr p1, .slice A b.length c] w fun e w' => e = .returned (.tuple #[.int .i64 ((T.find b).getD 0), .bool (T.find b).isSome]) ∧ Two W0 w' p1 p2 (T.after b) Z := by
  obtain ⟨F1, F2, ⟨⟨bm, vr, FR, FG, D, hI⟩, hb1, hs1⟩, h2, hd, hb⟩ := h
  refine (find_calls w hI A c b (Kd.C_below hC hb) hc hl hr (fun hne ad e => by have h3 := row_old hC hne ad e; have h4 := hb1 p1 hI.fp; omega) hlk hs1).mono ?_
  rintro e w' ⟨rfl, hI', hF, -⟩
  exact ⟨rfl, Two.move h2 hd hb hb1 ⟨⟨bm, vr, FR, FG, D, hI'⟩, hb1, after_same T b hs1⟩ (hF.mono (fun k e => by subst e; exact Or.inl hI.fp)) (fun k hk => Or.inl hk)⟩
theorem two_put (h : Two W0 w p1 p2 T Z) (hlk : T.looked < 4611686018427387904) :
    Calls Try.prog 21 #[ptr p1, .slice A b.length c] w fun e w' => e = .returned (.tuple #[.int .i64 (T.putN b), .int .i64 (T.putE b)]) ∧ Two W0 w' p1 p2 (T.put b) Z := by
  obtain ⟨F1, F2, ⟨⟨bm, vr, FR, FG, D, hI⟩, hb1, hs1⟩, h2, hd, hb⟩ := h
  have hA : b ≠ [] → ∀ ad, A = some ad → ad.block ≠ p1 := fun hne ad e => by have h3 := row_old hC hne ad e; have h4 := hb1 p1 hI.fp; omega
  have hs := after_same T b hs1
  cases hfi : T.find b with
  | some n =>
    refine (put_has w hI A c b (Kd.C_below hC hb) hc hl hr hA hlk hs1 n hfi).mono ?_
    rintro e w' ⟨rfl, hI', hF⟩
    refine ⟨by unfold Tab.putN Tab.putE; rw [hfi]; rfl, ?_⟩
    rw [show T.put b = T.after b from by unfold Tab.put; rw [if_pos (Or.inl (by rw [hfi]; rfl))]]
    exact Two.move h2 hd hb hb1 ⟨⟨bm, vr, FR, FG, D, hI'⟩, hb1, hs⟩ (hF.mono (fun k e => by subst e; exact Or.inl hI.fp)) (fun k hk => Or.inl hk)
  | none =>
    by_cases hfull : T.room ≤ T.rows.length
    · refine (put_full w hI A c b (Kd.C_below hC hb) hc hl hr hA hlk hs1 hfi hfull).mono ?_
      rintro e w' ⟨rfl, hI', hF⟩
      refine ⟨by unfold Tab.putN Tab.putE; rw [hfi]; simp only [Option.isSome_none, Bool.false_eq_true, false_or]; rw [if_pos hfull, if_neg (by omega)], ?_⟩
      rw [show T.put b = T.after b from by unfold Tab.put; rw [if_pos (Or.inr hfull)]]
      exact Two.move h2 hd hb hb1 ⟨⟨bm, vr, FR, FG, D, hI'⟩, hb1, hs⟩ (hF.mono (fun k e => by subst e; exact Or.inl hI.fp)) (fun k hk => Or.inl hk)
    · refine (put_new w hI A c b (Kd.C_below hC hb) hc hl hr hA hlk hs1 hfi (by omega)).mono ?_
      rintro e w' ⟨rfl, hF, vr', FR', FG', D', F', hn1, hn2, hI'⟩
      refine ⟨by unfold Tab.putN Tab.putE; rw [hfi]; simp only [Option.isSome_none, Bool.false_eq_true, false_or]; rw [if_neg hfull, if_pos (by omega)], ?_⟩
      rw [show T.put b = { T.after b with rows := T.rows ++ [b] } from by unfold Tab.put; rw [if_neg (by rw [hfi]; simp only [Option.isSome_none, Bool.false_eq_true, false_or]; exact hfull)]]
      exact Two.move h2 hd hb hb1 ⟨⟨bm, vr', FR', FG', D', hI'⟩, fun k hk => (hn1 k hk).elim (hb1 k) (fun h5 => Nat.le_trans hb.size h5), hs⟩ hF hn1
end
section
variable {W0 w : World} {p1 p2 : Nat} {T Z : Tab}
theorem two_len (h : Two W0 w p1 p2 T Z) : Calls Try.prog 22 #[ptr p1] w fun e w' => e = .returned (.int .i64 T.rows.length) ∧ w' = w := by
  obtain ⟨F1, F2, ⟨⟨bm, vr, FR, FG, D, hI⟩, hb1, hs1⟩, h2, hd, hb⟩ := h
  exact len_calls w hI
theorem two_looks (h : Two W0 w p1 p2 T Z) : Calls Try.prog 23 #[ptr p1] w fun e w' => e = .returned (.tuple #[.int .i64 T.looked, .int .i64 T.same]) ∧ Two W0 w' p1 p2 T Z := by
  have h0 := h
  obtain ⟨F1, F2, ⟨⟨bm, vr, FR, FG, D, hI⟩, hb1, hs1⟩, h2, hd, hb⟩ := h
  refine (looks_calls w hI).mono ?_
  rintro e w' ⟨rfl, hd'⟩
  exact ⟨rfl, h0.of_below hd'.below⟩
theorem two_crowd (h : Two W0 w p1 p2 T Z) : Calls Try.prog 24 #[ptr p1] w fun e w' => ∃ k : Nat, e = .returned (.int .i64 k) ∧ IsCrowd T k ∧ Two W0 w' p1 p2 T Z := by
  have h0 := h
  obtain ⟨F1, F2, ⟨⟨bm, vr, FR, FG, D, hI⟩, hb1, hs1⟩, h2, hd, hb⟩ := h
  refine (crowd_calls w hI).mono ?_
  rintro e w' ⟨k, rfl, hk, hb'⟩
  exact ⟨k, rfl, hk, h0.of_below hb'⟩
theorem two_get (h : Two W0 w p1 p2 T Z) (n : Int) (h0 : 0 ≤ n) (h1 : n < T.rows.length) : Calls Try.prog 25 #[ptr p1, .int .i64 n] w fun e w' => ∃ A, e = .returned (.tuple #[.slice A (T.rows.getD n.toNat []).length (T.rows.getD n.toNat []).length, .bool true]) ∧ Kd.C (Kd.int .u8) w' A (T.rows.getD n.toNat []).length (T.rows.getD n.toNat []) ∧ Two W0 w' p1 p2 T Z := by
  have hh := h
  obtain ⟨F1, F2, ⟨⟨bm, vr, FR, FG, D, hI⟩, hb1, hs1⟩, h2, hd, hb⟩ := h
  refine (get_calls w hI n h0 h1).mono ?_
  rintro e w' ⟨A, c, rfl, hR, hb'⟩
  exact ⟨A, rfl, (Kd.R_reads' hR).2.2, hh.of_below hb'⟩
theorem two_not (h : Two W0 w p1 p2 T Z) (n : Int) (hn : n < 0 ∨ (T.rows.length : Int) ≤ n) : Calls Try.prog 25 #[ptr p1, .int .i64 n] w fun e w' => e = .returned (.tuple #[.slice none 0 0, .bool false]) ∧ w' = w := by
  obtain ⟨F1, F2, ⟨⟨bm, vr, FR, FG, D, hI⟩, hb1, hs1⟩, h2, hd, hb⟩ := h
  exact get_not w hI n hn
theorem two_new {w1 : World} {p : Nat} {F : Nat → Prop} (hh : Has w1 W0.heap.size p T F) (hb : Below W0.heap.size W0 w1) (bits room : Nat) (hbi : bits ≤ 64) (h1 : 1 ≤ room) (hr : room ≤ 20000) :
    Calls Try.prog 19 #[.int .i64 bits, .int .i64 room] w1 fun e w' => e = .returned (.tuple #[ptr (w1.heap.size + 1), .int .i64 0]) ∧ Two W0 w' p (w1.heap.size + 1) T ⟨bits, room, [], 0, 0⟩ := by
  refine (new_calls w1 bits room hbi h1 hr).mono ?_
  rintro e w' ⟨rfl, hI, hb', hs⟩
  exact ⟨rfl, F, _, hh.other (Far.of_below (F := fun _ => False) hb') (fun _ _ h => h), ⟨⟨_, _, _, _, _, hI⟩, fun k hk => by have := hb.size; omega, Nat.le_refl _⟩, fun k hk hk' => by have := hh.lt k hk; omega, hb.trans (hb'.mono hb.size)⟩
theorem one_new {w1 : World} (hb : Below W0.heap.size W0 w1) (bits room : Nat) (hbi : bits ≤ 64) (h1 : 1 ≤ room) (hr : room ≤ 20000) :
    Calls Try.prog 19 #[.int .i64 bits, .int .i64 room] w1 fun e w' => ∃ p F, e = .returned (.tuple #[ptr p, .int .i64 0]) ∧ Has w' W0.heap.size p ⟨bits, room, [], 0, 0⟩ F ∧ Below W0.heap.size W0 w' := by
  refine (new_calls w1 bits room hbi h1 hr).mono ?_
  rintro e w' ⟨rfl, hI, hb', hs⟩
  exact ⟨_, _, rfl, ⟨⟨_, _, _, _, _, hI⟩, fun k hk => by have := hb.size; omega, Nat.le_refl _⟩, hb.trans (hb'.mono hb.size)⟩
end
end Go.Proofs.Ytgfokmgbphhpjaa.St
