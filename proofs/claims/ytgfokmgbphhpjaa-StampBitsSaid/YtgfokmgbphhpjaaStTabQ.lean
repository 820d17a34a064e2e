/- More bits: fewer looks, no greater crowd; of 0 bits: one crowd. -/
import Derived.Test.YtgfokmgbphhpjaaStTabP
import Derived.Test.YtgfokmgbphhpjaaStCrowd
namespace Go.Proofs.Ytgfokmgbphhpjaa.St
open Go.RowKit
set_option linter.unusedVariables false
set_option linter.unusedSimpArgs false
theorem crowd_zero {T : Tab} {k : Nat} (h : T.bits = 0) (hk : IsCrowd T k) : k = T.rows.length := by
  have e : (idxs T.bits T.rows 0).length = T.rows.length := by
    unfold idxs
    rw [h, List.length_map, List.filter_eq_self.2 (fun i _ => by rw [show stN 0 (T.rows.getD i []) = 0 from Nat.div_eq_of_lt (digN_lt _)]; rfl), List.length_range]
  have h1 := hk.1 0 (by omega)
  rcases hk.2 with h2 | ⟨s, _, h2⟩
  · omega
  · have := idxs_length T.bits T.rows s
    omega
theorem stN_div (a b : Nat) (h : a ≤ b) (hb : b ≤ 64) (l : List Int) : stN a l = stN b l / 2 ^ (b - a) := by
  unfold stN
  rw [Nat.div_div_eq_div_mul, ← Nat.pow_add, show 64 - b + (b - a) = 64 - a from by omega]
theorem dec_more (x y s t : Nat) (h : x = s → y = t) : decide (x = s) = (decide (x = s) && decide (y = t)) := by
  by_cases e : x = s
  · rw [decide_eq_true e, decide_eq_true (h e)]; rfl
  · rw [decide_eq_false e]; rfl
theorem filt_more (rows : List (List Int)) (n : Nat) (f g : List Int → Nat) (s t : Nat) (h : ∀ l, f l = s → g l = t) : ((List.range n).filter (fun i => decide (f (rows.getD i []) = s))).map (fun i => ((i : Nat) : Int)) = (((List.range n).filter (fun i => decide (g (rows.getD i []) = t))).map (fun i => ((i : Nat) : Int))).filter (fun x => decide (f (rows.getD x.toNat []) = s)) := by
  rw [List.filter_map, List.filter_filter]
  refine congrArg _ (List.filter_congr (fun i _ => ?_))
  exact dec_more _ _ _ _ (h _)
theorem idxs_more (a b : Nat) (h : a ≤ b) (hb : b ≤ 64) (rows : List (List Int)) (s : Nat) : idxs b rows s = (idxs a rows (s / 2 ^ (b - a))).filter (fun x => decide (stN b (rows.getD x.toNat []) = s)) :=
  filt_more rows rows.length (stN b) (stN a) s (s / 2 ^ (b - a)) (fun l e => (stN_div a b h hb l).trans (congrArg (· / 2 ^ (b - a)) e))
theorem scan_filter (rows : List (List Int)) (b : List Int) (p : Int → Bool) (l : List Int) (hp : ∀ x ∈ l, rows.getD x.toNat [] = b → p x = true) : (scan rows b (l.filter p)).1 ≤ (scan rows b l).1 := by
  induction l with
  | nil => exact Nat.le_refl _
  | cons x l ih =>
    have ih' := ih (fun y hy => hp y (List.mem_cons_of_mem _ hy))
    by_cases e : rows.getD x.toNat [] = b
    · rw [List.filter_cons_of_pos (hp x List.mem_cons_self e)]
      unfold scan
      rw [if_pos e, if_pos e]
      exact Nat.le_refl _
    · by_cases hx : p x = true
      · rw [List.filter_cons_of_pos hx]
        unfold scan
        rw [if_neg e, if_neg e]
        exact Nat.succ_le_succ ih'
      · rw [List.filter_cons_of_neg hx]
        have : (scan rows b (x :: l)).1 = (scan rows b l).1 + 1 := by
          conv => lhs; unfold scan
          rw [if_neg e]
        omega
theorem looks_more {T T' : Tab} (hr : T.rows = T'.rows) (h : T.bits ≤ T'.bits) (hb : T'.bits ≤ 64) (b : List Int) : (scan T'.rows b (T'.grp b)).1 ≤ (scan T.rows b (T.grp b)).1 := by
  unfold Tab.grp
  rw [idxs_more T.bits T'.bits h hb, ← stN_div T.bits T'.bits h hb, ← hr]
  exact scan_filter _ _ _ _ (fun x _ e => by rw [e]; exact decide_eq_true rfl)
theorem crowd_more {T T' : Tab} {k k' : Nat} (hr : T.rows = T'.rows) (h : T.bits ≤ T'.bits) (hb : T'.bits ≤ 64) (hk : IsCrowd T k) (hk' : IsCrowd T' k') : k' ≤ k := by
  rcases hk'.2 with h1 | ⟨s, hs, h1⟩
  · omega
  · rw [idxs_more T.bits T'.bits h hb, ← hr] at h1
    have h2 := List.length_filter_le (fun x => decide (stN T'.bits (T.rows.getD x.toNat []) = s)) (idxs T.bits T.rows (s / 2 ^ (T'.bits - T.bits)))
    have h3 := hk.1 (s / 2 ^ (T'.bits - T.bits)) (Nat.lt_of_le_of_lt (Nat.div_le_self _ _) hs)
    omega
end Go.Proofs.Ytgfokmgbphhpjaa.St
