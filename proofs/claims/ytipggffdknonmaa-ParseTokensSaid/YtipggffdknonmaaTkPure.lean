/- Plain: the reference's Tokens tells what the walk of parse.Tokens told: every text. -/
import Derived.Test.YtipggffdknonmaaBase
import Derived.Test.YtipggffdknonmaaTkLaw
namespace Go.Proofs.Ytipggffdknonmaa.Tk
open Go.RowKit Go.Proofs.YtipggffdknonmaaW.PrintWords Go.Proofs.YtipggffdknonmaaW.PrintLast Go.Proofs.YtipggffdknonmaaW.PrintMore Go.Proofs.Ytipggffdknonmaa.PParseTokens Go.Proofs.Ytipggffdknonmaa.Base
set_option linter.unusedVariables false
/-- How many digits stand first. -/
def dcount : List UInt8 → Nat
  | [] => 0
  | c :: l => if 48 ≤ c.toNat ∧ c.toNat ≤ 57 then dcount l + 1 else 0
theorem dcount_le : ∀ l : List UInt8, dcount l ≤ l.length
  | [] => Nat.le_refl _
  | c :: l => by
    simp only [dcount, List.length_cons]
    have := dcount_le l
    split <;> omega
theorem numF_snd (most : Int) : ∀ (l : List UInt8) (n : Int) (k : Nat), (numF most l n k).2 = k + dcount l
  | [], n, k => rfl
  | c :: l, n, k => by
    simp only [numF, dcount]
    split
    · rw [numF_snd most l]; omega
    · rfl
theorem numF_cap (most : Int) (hm : 0 ≤ most) : ∀ (l : List UInt8) (k : Nat), (numF most l (most + 1) k).1 = most + 1
  | [], k => rfl
  | c :: l, k => by
    simp only [numF]
    split
    · rename_i hd
      have e : (if most + 1 < 10 * (most + 1) + ((c.toNat : Int) - 48) then most + 1 else 10 * (most + 1) + ((c.toNat : Int) - 48)) = most + 1 := by split <;> omega
      rw [e]
      exact numF_cap most hm l (k + 1)
    · rfl
/-- The number of at most two digits, or -1. -/
def refNum (l : List UInt8) (most : Int) : Int :=
  match l with
  | [a] => if (a.toNat : Int) - 48 > most then -1 else (a.toNat : Int) - 48
  | [a, b] => if a = 48 then -1 else if 10 * ((a.toNat : Int) - 48) + ((b.toNat : Int) - 48) > most then -1 else 10 * ((a.toNat : Int) - 48) + ((b.toNat : Int) - 48)
  | _ => -1
theorem nl_bad {l : List UInt8} {most v : Int} (hF : (numF most l 0 0).1 = v) (hC : v > most ∨ 1 < dcount l ∧ l.head? = some 48) : numL most l = (0, 0) := by
  have hk := numF_snd most l 0 0
  rw [Nat.zero_add] at hk
  unfold numL
  rw [if_pos (by rw [hF, hk]; exact hC)]
theorem nl_ok {l : List UInt8} {most v : Int} (hF : (numF most l 0 0).1 = v) (hC : ¬ (v > most ∨ 1 < dcount l ∧ l.head? = some 48)) : numL most l = (v, (dcount l : Int)) := by
  have hk := numF_snd most l 0 0
  rw [Nat.zero_add] at hk
  unfold numL
  rw [if_neg (by rw [hF, hk]; exact hC), hF, hk]
/-- Both tell alike. -/
def Alike (l : List UInt8) (most : Int) : Prop := refNum (l.take (dcount l)) most = (if (numL most l).2 = 0 then -1 else (numL most l).1) ∧ ((numL most l).2 ≠ 0 → (numL most l).2 = (dcount l : Int))
theorem alike_bad {l : List UInt8} {most : Int} (h : numL most l = (0, 0)) (hr : refNum (l.take (dcount l)) most = -1) : Alike l most := by
  unfold Alike; rw [h, hr]; simp
theorem alike_ok {l : List UInt8} {most v : Int} (h : numL most l = (v, (dcount l : Int))) (h0 : dcount l ≠ 0) (hr : refNum (l.take (dcount l)) most = v) : Alike l most := by
  unfold Alike; rw [h, hr]; simp only []
  exact ⟨by rw [if_neg (by omega)], fun _ => trivial⟩
theorem alike_none {l : List UInt8} {most v : Int} (h : numL most l = (v, (dcount l : Int))) (h0 : dcount l = 0) : Alike l most := by
  unfold Alike; rw [h, h0]; simp [refNum]
theorem two_same (a b : UInt8) (l : List UInt8) (most : Int) (hm : most = 63 ∨ most = 99) (hd : dcount (a :: b :: l) = 2)
    (hF : (numF most (a :: b :: l) 0 0).1 = if most + 1 < 10 * ((a.toNat : Int) - 48) + ((b.toNat : Int) - 48) then most + 1 else 10 * ((a.toNat : Int) - 48) + ((b.toNat : Int) - 48)) : Alike (a :: b :: l) most := by
  have hr : (a :: b :: l).take (dcount (a :: b :: l)) = [a, b] := by rw [hd]; rfl
  by_cases h48 : a = 48
  · refine alike_bad (nl_bad hF (.inr ⟨by omega, by simp [h48]⟩)) ?_
    rw [hr]; simp only [refNum]; rw [if_pos h48]
  · by_cases hc : 10 * ((a.toNat : Int) - 48) + ((b.toNat : Int) - 48) > most
    · refine alike_bad (nl_bad hF (.inl (by split <;> omega))) ?_
      rw [hr]; simp only [refNum]; rw [if_neg h48, if_pos hc]
    · have e : (if most + 1 < 10 * ((a.toNat : Int) - 48) + ((b.toNat : Int) - 48) then most + 1 else 10 * ((a.toNat : Int) - 48) + ((b.toNat : Int) - 48)) = 10 * ((a.toNat : Int) - 48) + ((b.toNat : Int) - 48) := by rw [if_neg (by omega)]
      rw [e] at hF
      refine alike_ok (nl_ok hF (fun h => ?_)) (by omega) ?_
      · rcases h with h | ⟨_, h⟩
        · omega
        · exact h48 (by simpa using h)
      · rw [hr]; simp only [refNum]; rw [if_neg h48, if_neg hc]
theorem one_same (a : UInt8) (l : List UInt8) (most : Int) (hm : most = 63 ∨ most = 99) (ha : 48 ≤ a.toNat ∧ a.toNat ≤ 57) (hd : dcount (a :: l) = 1)
    (hF : (numF most (a :: l) 0 0).1 = (a.toNat : Int) - 48) : Alike (a :: l) most := by
  have hr : (a :: l).take (dcount (a :: l)) = [a] := by rw [hd]; rfl
  refine alike_ok (nl_ok hF (by omega)) (by omega) ?_
  rw [hr]; simp only [refNum]; rw [if_neg (by omega)]
theorem num_same (l : List UInt8) (most : Int) (hm : most = 63 ∨ most = 99) : Alike l most := by
  match l with
  | [] => exact alike_none (nl_ok (v := 0) rfl (by simp [dcount]; omega)) rfl
  | a :: l =>
    by_cases ha : 48 ≤ a.toNat ∧ a.toNat ≤ 57
    · have e1 : dcount (a :: l) = dcount l + 1 := by simp only [dcount]; rw [if_pos ha]
      have n1 : numF most (a :: l) 0 0 = numF most l ((a.toNat : Int) - 48) 1 := by
        simp only [numF]
        rw [if_pos ha, if_neg (by omega)]; simp
      match l with
      | [] => exact one_same a [] most hm ha e1 (by rw [n1]; rfl)
      | b :: l =>
        by_cases hb : 48 ≤ b.toNat ∧ b.toNat ≤ 57
        · have e2 : dcount (b :: l) = dcount l + 1 := by simp only [dcount]; rw [if_pos hb]
          match l with
          | [] => exact two_same a b [] most hm (by rw [e1, e2]; rfl) (by rw [n1]; simp only [numF]; rw [if_pos hb])
          | c :: l =>
            by_cases hcd : 48 ≤ c.toNat ∧ c.toNat ≤ 57
            · have e3 : dcount (c :: l) = dcount l + 1 := by simp only [dcount]; rw [if_pos hcd]
              refine alike_bad (nl_bad rfl ?_) ?_
              · by_cases h48 : a = 48
                · exact .inr ⟨by omega, by simp [h48]⟩
                · left
                  have ha1 : 49 ≤ a.toNat := by
                    rcases Nat.lt_or_ge a.toNat 49 with h | h
                    · exfalso; apply h48
                      apply UInt8.toNat_inj.1
                      show a.toNat = 48
                      omega
                    · exact h
                  rw [n1]
                  simp only [numF]
                  rw [if_pos hb, if_pos hcd]
                  have e : ∀ x : Int, 10 ≤ x → x ≤ most + 1 → (if most + 1 < 10 * x + ((c.toNat : Int) - 48) then most + 1 else 10 * x + ((c.toNat : Int) - 48)) = most + 1 := by
                    intro x h0 h1; split <;> omega
                  rw [e _ (by split <;> omega) (by split <;> omega), numF_cap most (by omega)]
                  omega
              · rw [e1, e2, e3]
                simp only [List.take_succ_cons, refNum]
            · have e3 : dcount (c :: l) = 0 := by simp only [dcount]; rw [if_neg hcd]
              exact two_same a b (c :: l) most hm (by rw [e1, e2, e3]) (by rw [n1]; simp only [numF]; rw [if_pos hb, if_neg hcd])
        · have e2 : dcount (b :: l) = 0 := by simp only [dcount]; rw [if_neg hb]
          exact one_same a (b :: l) most hm ha (by rw [e1, e2]) (by rw [n1]; simp only [numF]; rw [if_neg hb])
    · have e1 : dcount (a :: l) = 0 := by simp only [dcount]; rw [if_neg ha]
      have n1 : (numF most (a :: l) 0 0).1 = 0 := by simp only [numF]; rw [if_neg ha]
      exact alike_none (nl_ok n1 (by rw [e1]; omega)) e1
/-! The reference's own functions. -/
theorem bt_nat (s : ByteArray) (p : Nat) (h : p < s.size) : bt s (p : Int) = ((s[p]'h).toNat : Int) := by
  unfold bt
  rw [show ((p : Int)).toNat = p from by omega, dif_pos h]
theorem most_tells (c : Nat) : organonref03_most.f (c : Int) = some (if (symL c).1 = 0 then -1 else (symL c).2) := by
  unfold organonref03_most.f symL
  by_cases h1 : c = 120
  · rw [if_pos (by omega), if_pos h1]; rfl
  · rw [if_neg (by omega), if_neg h1]
    by_cases h2 : c = 102
    · rw [if_pos (by omega), if_pos h2]; rfl
    · rw [if_neg (by omega), if_neg h2]
      by_cases h3 : c = 80
      · rw [if_pos (by omega), if_pos h3]; rfl
      · rw [if_neg (by omega), if_neg h3]; rfl
theorem kind_tells (c : Nat) (h : (symL c).1 ≠ 0) : organonref03_kindOf.f (c : Int) = some (symL c).1 := by
  unfold organonref03_kindOf.f
  unfold symL at h ⊢
  by_cases h1 : c = 120
  · rw [if_pos (by omega), if_pos h1]
  · rw [if_neg (by omega), if_neg h1]
    rw [if_neg h1] at h
    by_cases h2 : c = 102
    · rw [if_pos (by omega), if_pos h2]
    · rw [if_neg (by omega), if_neg h2]
      rw [if_neg h2] at h
      by_cases h3 : c = 80
      · rw [if_pos h3]
      · rw [if_neg h3] at h; exact absurd rfl h
theorem sym_most (c : Nat) (h : (symL c).1 ≠ 0) : (symL c).2 = 63 ∨ (symL c).2 = 99 := by
  unfold symL at h ⊢
  by_cases h1 : c = 120
  · rw [if_pos h1]; exact .inl rfl
  · rw [if_neg h1] at h ⊢
    by_cases h2 : c = 102
    · rw [if_pos h2]; exact .inr rfl
    · rw [if_neg h2] at h ⊢
      by_cases h3 : c = 80
      · rw [if_pos h3]; exact .inr rfl
      · rw [if_neg h3] at h; exact absurd rfl h
theorem digit_tells (c : Nat) : organonref03_isDigit.f (c : Int) = some (decide (48 ≤ c ∧ c ≤ 57)) := by
  unfold organonref03_isDigit.f
  by_cases h : c ≥ 48
  · rw [if_pos (by omega)]; congr 1; rw [decide_eq_decide]; omega
  · rw [if_neg (by omega), decide_eq_false (by omega)]
theorem digits_l0 (s : ByteArray) (hs : s.size ≤ 8000) (p : Nat) (d : Nat) : ∀ (n k : Nat), p + n + d = s.size → d < k → organonref03_digits.l0 k s (p : Int) (n : Int) = some ((n + dcount (s.data.toList.drop (p + n)) : Nat) : Int) := by
  induction d with
  | zero =>
    intro n k h hk
    obtain ⟨k, rfl⟩ : ∃ m, k = m + 1 := ⟨k - 1, by omega⟩
    simp only [organonref03_digits.l0]
    rw [wrap64_id (by omega) (by omega), if_neg (by omega), List.drop_eq_nil_of_le (by simp; omega)]; rfl
  | succ d ih =>
    intro n k h hk
    obtain ⟨k, rfl⟩ : ∃ m, k = m + 1 := ⟨k - 1, by omega⟩
    have hlt : p + n < s.size := by omega
    simp only [organonref03_digits.l0]
    rw [wrap64_id (by omega) (by omega), if_pos (by omega), if_pos (by omega), show (p : Int) + (n : Int) = ((p + n : Nat) : Int) from by omega, bt_nat s _ hlt, digit_tells, some_bind, drop_get s _ hlt]
    simp only [dcount]
    by_cases hd : 48 ≤ (s[p + n]'hlt).toNat ∧ (s[p + n]'hlt).toNat ≤ 57
    · rw [decide_eq_true hd, if_pos rfl, if_pos hd, wrap64_id (by omega) (by omega), show (n : Int) + 1 = ((n + 1 : Nat) : Int) from by omega, ih (n + 1) k (by omega) (by omega), show p + (n + 1) = p + n + 1 from by omega]
      congr 2; omega
    · rw [decide_eq_false hd, if_neg (by decide), if_neg hd]; rfl
theorem digits_tells (s : ByteArray) (hs : s.size ≤ 8000) (p k : Nat) (hp : p ≤ s.size) (hk : s.size < k) : organonref03_digits.f k s (p : Int) = some ((dcount (s.data.toList.drop p) : Nat) : Int) := by
  unfold organonref03_digits.f
  have := digits_l0 s hs p (s.size - p) 0 k (by omega) (by omega)
  rw [Nat.zero_add] at this
  exact this
theorem bt_list (s : ByteArray) (l : List UInt8) (h : s.data.toList = l) (i : Nat) (c : UInt8) (hc : l[i]? = some c) : bt s (i : Int) = (c.toNat : Int) := by
  subst h
  have hi : i < s.size := by
    have := (List.getElem?_eq_some_iff.1 hc).1
    simpa using this
  rw [bt_nat s i hi]
  have h1 := drop_get s i hi
  have h2 := congrArg (fun l => l[0]?) h1
  simp only [List.getElem?_drop, Nat.add_zero, hc, List.getElem?_cons_zero, Option.some.injEq] at h2
  rw [h2]
theorem size_list (s : ByteArray) (l : List UInt8) (h : s.data.toList = l) : s.size = l.length := by
  rw [← h]; simp
theorem num_step (s : ByteArray) (most x i : Int) (c : UInt8) (k : Nat) (h : bt s i = (c.toNat : Int)) (hc : 48 ≤ c.toNat ∧ c.toNat ≤ 57) (hi0 : 0 ≤ i) (hi : i < s.size) (hi2 : i ≤ 100) (x0 : 0 ≤ x) (x1 : x ≤ 100) :
    organonref03_number.l0 (k + 1) s most x i = organonref03_number.l0 k s most (10 * x + ((c.toNat : Int) - 48)) (i + 1) := by
  simp only [organonref03_number.l0]
  rw [if_pos hi, if_pos hi0, h, wrap64_id (n := x * 10) (by omega) (by omega), wrap64_id (n := i + 1) (by omega) (by omega), wrap64_id (by omega) (by omega)]
  congr 1
  omega
theorem num_stop (s : ByteArray) (most x i : Int) (k : Nat) (hi : ¬ i < s.size) : organonref03_number.l0 (k + 1) s most x i = some (if x > most then -1 else x) := by
  simp only [organonref03_number.l0]
  rw [if_neg hi]
  split <;> rfl
theorem num_jt (s : ByteArray) (most : Int) (k : Nat) : organonref03_number.j0 (k + 1) s most true = some (-1) := by
  simp only [organonref03_number.j0]
  rw [if_true]
theorem num_jf (s : ByteArray) (most : Int) (k : Nat) : organonref03_number.j0 (k + 1) s most false = organonref03_number.l0 k s most 0 0 := by
  simp only [organonref03_number.j0]
  rw [if_neg (by decide)]
theorem number_tells (s : ByteArray) (l : List UInt8) (h : s.data.toList = l) (hd : ∀ c ∈ l, 48 ≤ c.toNat ∧ c.toNat ≤ 57) (most : Int) (k : Nat) (hk : 10 ≤ k) : organonref03_number.f k s most = some (refNum l most) := by
  have hz := size_list s l h
  obtain ⟨k, rfl⟩ : ∃ m, k = m + 1 + 1 + 1 + 1 := ⟨k - 4, by omega⟩
  unfold organonref03_number.f
  match l, h, hz, hd with
  | [], h, hz, hd =>
    simp only [List.length_nil] at hz
    rw [if_pos (by omega), num_jt]
    rfl
  | [a], h, hz, hd =>
    have b0 := bt_list s _ h 0 a rfl
    rw [show ((0 : Nat) : Int) = 0 from rfl] at b0
    have ha := hd a (by simp)
    simp only [List.length_cons, List.length_nil] at hz
    rw [if_neg (by omega), if_neg (by omega), if_neg (by omega), num_jf, num_step s most 0 0 a _ b0 ha (by omega) (by omega) (by omega) (by omega) (by omega), num_stop _ _ _ _ _ (by omega)]
    simp only [refNum]
    congr 1
    rw [show (10 : Int) * 0 + ((a.toNat : Int) - 48) = (a.toNat : Int) - 48 from by omega]
  | [a, b], h, hz, hd =>
    have b0 := bt_list s _ h 0 a rfl
    have b1 := bt_list s _ h 1 b rfl
    have ha := hd a (by simp)
    have hb := hd b (by simp)
    simp only [List.length_cons, List.length_nil] at hz
    rw [show ((0 : Nat) : Int) = 0 from rfl] at b0
    rw [show ((1 : Nat) : Int) = 1 from rfl] at b1
    rw [if_neg (by omega), if_neg (by omega), if_pos (by omega), if_pos (by omega), b0]
    by_cases h48 : a = 48
    · have e : ((a.toNat : Int) == 48) = true := by rw [h48]; rfl
      rw [e, num_jt]
      simp only [refNum]; rw [if_pos h48]
    · have e : ((a.toNat : Int) == 48) = false := by
        rw [beq_eq_false_iff_ne]
        intro h'
        apply h48
        apply UInt8.toNat_inj.1
        show a.toNat = 48
        omega
      rw [e, num_jf, num_step s most 0 0 a _ b0 ha (by omega) (by omega) (by omega) (by omega) (by omega), show (0 : Int) + 1 = 1 from rfl, num_step s most _ 1 b _ b1 hb (by omega) (by omega) (by omega) (by omega) (by omega), num_stop _ _ _ _ _ (by omega)]
      simp only [refNum]
      rw [if_neg h48, show (10 : Int) * 0 + ((a.toNat : Int) - 48) = (a.toNat : Int) - 48 from by omega]
  | a :: b :: c :: l, h, hz, hd =>
    simp only [List.length_cons] at hz
    rw [if_neg (by omega), if_pos (by omega), num_jt]
    rfl
theorem dcount_take : ∀ l : List UInt8, ∀ c ∈ l.take (dcount l), 48 ≤ c.toNat ∧ c.toNat ≤ 57
  | [], c, h => by simp at h
  | a :: l, c, h => by
    simp only [dcount] at h
    split at h
    · rename_i ha
      rw [List.take_succ_cons] at h
      rcases List.mem_cons.1 h with h | h
      · subst h; exact ha
      · exact dcount_take l c h
    · simp at h
theorem extract_mid (s : ByteArray) (p d : Nat) : (s.extract p (p + d)).data.toList = (s.data.toList.drop p).take d := by
  rw [ByteArray.data_extract, Array.toList_extract]
  show (s.data.toList.drop p).take (p + d - p) = _
  rw [Nat.add_sub_cancel_left]
theorem tok_jump (s : ByteArray) (acc : List S38) (d : Nat) : ∀ (p : Nat), p + d ≤ s.size → tokF (s.data.toList.drop p) p (p + d) acc = tokF (s.data.toList.drop (p + d)) (p + d) (p + d) acc := by
  induction d with
  | zero => intro p _; rfl
  | succ d ih =>
    intro p h
    rw [tok_skip (s := s) (by omega) (.inl (by omega))]
    have := ih (p + 1) (by omega)
    rw [show p + 1 + d = p + (d + 1) from by omega] at this
    exact this
theorem ref_l0 (s : ByteArray) (hs : s.size ≤ 8000) (d : Nat) : ∀ (p next : Nat) (acc : List S38) (k : Nat), s.size - p ≤ d → p ≤ s.size → next ≤ p → acc.length ≤ p → 2 * d + s.size + 100 < k →
    organonref03_Tokens.l0 k s acc (p : Int) = some (tokF (s.data.toList.drop p) p next acc) := by
  induction d with
  | zero =>
    intro p next acc k hd hp hn ha hk
    obtain ⟨k, rfl⟩ : ∃ m, k = m + 1 := ⟨k - 1, by omega⟩
    simp only [organonref03_Tokens.l0]
    rw [if_neg (by omega), tok_end (by omega)]
  | succ d ih =>
    intro p next acc k hd hp hn ha hk
    obtain ⟨k, rfl⟩ : ∃ m, k = m + 1 + 1 := ⟨k - 2, by omega⟩
    by_cases hlt : p < s.size
    · simp only [organonref03_Tokens.l0]
      rw [if_pos (by omega), if_pos (by omega), bt_nat s p hlt]
      by_cases h32 : (s[p]'hlt).toNat = 32 ∨ (s[p]'hlt).toNat = 9
      · have hj : organonref03_Tokens.j1 (k + 1) s acc (p : Int) ((s[p]'hlt).toNat : Int) true = some (tokF (s.data.toList.drop p) p next acc) := by
          simp only [organonref03_Tokens.j1]
          rw [if_true, wrap64_id (by omega) (by omega), show (p : Int) + 1 = ((p + 1 : Nat) : Int) from by omega, tok_skip hlt (.inr h32)]
          exact ih (p + 1) next acc k (by omega) hlt (by omega) (by omega) (by omega)
        rcases h32 with h | h
        · rw [if_pos (by omega)]; exact hj
        · rw [if_neg (by omega), show (((s[p]'hlt).toNat : Int) == 9) = true from by rw [beq_iff_eq]; omega]; exact hj
      · have hx : ¬ (p < next ∨ (s[p]'hlt).toNat = 32 ∨ (s[p]'hlt).toNat = 9) := by omega
        rw [if_neg (by omega), show (((s[p]'hlt).toNat : Int) == 9) = false from by rw [beq_eq_false_iff_ne]; omega]
        simp only [organonref03_Tokens.j1]
        have hc256 : (s[p]'hlt).toNat < 256 := (s[p]'hlt).toNat_lt
        rw [if_neg (by decide), organonref03_isSign.tells _ k (by omega), some_bind]
        cases hsg : isSign ((s[p]'hlt).toNat : Int) with
        | true =>
          have hsy : (symL (s[p]'hlt).toNat).1 = 0 := by
            unfold isSign at hsg
            have := of_decide_eq_true hsg
            unfold symL
            rw [if_neg (by omega), if_neg (by omega), if_neg (by omega)]
          rw [if_pos rfl, if_pos (by omega), wrap64_id (by omega) (by omega), wrap64_id (by omega) (by omega), show (p : Int) + 1 = ((p + 1 : Nat) : Int) from by omega, tok_sign hlt hx hsy hsg]
          exact ih (p + 1) next _ k (by omega) hlt (by omega) (by simp; omega) (by omega)
        | false =>
          rw [if_neg (by decide), most_tells, some_bind]
          by_cases hsy : (symL (s[p]'hlt).toNat).1 = 0
          · rw [if_pos hsy, if_pos (by omega), tok_byte hlt hx hsy hsg]
          · have hm := sym_most _ hsy
            have hD := dcount_le (s.data.toList.drop (p + 1))
            simp only [List.length_drop, Array.length_toList] at hD
            have hsz : s.data.size = s.size := rfl
            rw [if_neg hsy, if_neg (by omega), wrap64_id (n := (p : Int) + 1) (by omega) (by omega), show (p : Int) + 1 = ((p + 1 : Nat) : Int) from by omega, digits_tells s hs (p + 1) k (by omega) (by omega), some_bind, if_pos (by omega)]
            obtain ⟨na, nb⟩ := num_same (s.data.toList.drop (p + 1)) _ hm
            have hdig := dcount_take (s.data.toList.drop (p + 1))
            generalize hDD : dcount (s.data.toList.drop (p + 1)) = D at *
            rw [wrap64_id (by omega) (by omega), if_pos (by omega), if_pos (by omega), some_bind, show (((p + 1 : Nat) : Int)).toNat = p + 1 from by omega, show ((((p + 1 : Nat) : Int) + (D : Int))).toNat = p + 1 + D from by omega]
            rw [number_tells (s.extract (p + 1) (p + 1 + D)) _ (extract_mid s (p + 1) D) hdig _ k (by omega), some_bind, na]
            obtain ⟨n, kk, hnk⟩ : ∃ n kk, numL (symL (s[p]'hlt).toNat).2 (s.data.toList.drop (p + 1)) = (n, kk) := ⟨_, _, rfl⟩
            have hv := numL_val (symL (s[p]'hlt).toNat).2 (by omega) (s.data.toList.drop (p + 1))
            rw [hnk] at nb hv ⊢
            simp only [] at nb hv ⊢
            by_cases hk0 : kk = 0
            · rw [if_pos hk0, if_pos (by omega), tok_bad hlt rfl hx (Prod.ext rfl rfl) hsy hnk hk0]
            · have hkD := nb hk0
              subst hkD
              rw [if_neg hk0, if_neg (by omega), kind_tells _ hsy, some_bind, if_pos (by omega), show ((p + 1 : Nat) : Int) + (D : Int) = ((p + 1 + D : Nat) : Int) from by omega, tok_put hlt rfl hx (Prod.ext rfl rfl) hsy hnk (by omega), tok_jump s _ D (p + 1) (by omega)]
              exact ih (p + 1 + D) (p + 1 + D) _ k (by omega) (by omega) (Nat.le_refl _) (by simp; omega) (by omega)
    · simp only [organonref03_Tokens.l0]
      rw [if_neg (by omega), tok_end hlt]
theorem ref_tells (s : ByteArray) (k : Nat) (hk : 40000 ≤ k) : organonref03_Tokens.f k s = some (tokR s) := by
  unfold organonref03_Tokens.f tokR
  by_cases hb : 8000 < s.size
  · rw [if_pos (by omega), if_pos hb]
  · rw [if_neg (by omega), if_neg hb]
    exact ref_l0 s (by omega) s.size 0 0 [] k (by omega) (by omega) (Nat.le_refl _) (by simp) (by omega)
theorem tok_len (s : ByteArray) (l : List UInt8) : ∀ (p next : Nat) (acc : List S38), acc.length ≤ p → (tokF l p next acc).1.length ≤ p + l.length := by
  induction l with
  | nil => intro p next acc h; simp only [tokF]; omega
  | cons c l ih =>
    intro p next acc h
    simp only [tokF, List.length_cons]
    split
    · have := ih (p + 1) next acc (by omega); omega
    · split
      · split
        · have := ih (p + 1) next (acc ++ [⟨4, (c.toNat : Int), (p : Int)⟩]) (by simp; omega); omega
        · simp
      · split
        · simp
        · have := ih (p + 1) (p + 1 + (numL (symL c.toNat).2 l).2.toNat) (acc ++ [⟨(symL c.toNat).1, (numL (symL c.toNat).2 l).1, (p : Int)⟩]) (by simp; omega); omega
theorem same_l0 (l : List S38) (hl : l.length ≤ 8000) (d : Nat) : ∀ (i k : Nat), i + d = l.length → d < k → organonlaw03_sameTokens.l0 k l l (l.length : Int) (i : Int) = some true := by
  induction d with
  | zero =>
    intro i k h hk
    obtain ⟨k, rfl⟩ : ∃ m, k = m + 1 := ⟨k - 1, by omega⟩
    simp only [organonlaw03_sameTokens.l0]
    rw [if_neg (by omega)]
  | succ d ih =>
    intro i k h hk
    obtain ⟨k, rfl⟩ : ∃ m, k = m + 1 := ⟨k - 1, by omega⟩
    simp only [organonlaw03_sameTokens.l0]
    rw [if_pos (by omega), if_pos (by omega), if_pos (by omega), if_pos (by omega), beq_self_eq_true, beq_self_eq_true, beq_self_eq_true, if_neg (by decide), wrap64_id (by omega) (by omega), show (i : Int) + 1 = ((i + 1 : Nat) : Int) from by omega]
    exact ih (i + 1) k (by omega) (by omega)
theorem same_self (l : List S38) (hl : l.length ≤ 8000) (k : Nat) (hk : l.length < k) : organonlaw03_sameTokens.f k l l = some true := by
  unfold organonlaw03_sameTokens.f
  rw [if_pos rfl]
  exact same_l0 l hl l.length 0 k (by omega) hk
theorem law_holds (s : ByteArray) (w : World) (hs : s.size ≤ 140737488351232) : Calls Try.prog 3 #[.string s] w fun e w' => e = .returned (.bool true) ∧ Below w.heap.size w w' := by
  obtain ⟨K, hK⟩ : ∃ K : Nat, 40000 ≤ K := ⟨_, Nat.le_refl _⟩
  have h8 := ref_tells s K hK
  have hlen : (tokR s).1.length ≤ 8000 := by
    unfold tokR
    by_cases hb : 8000 < s.size
    · rw [if_pos hb]; simp
    · rw [if_neg hb]
      have := tok_len s s.data.toList 0 0 [] (by simp)
      have h2 := size_list s _ rfl
      omega
  exact law_walk K s (tokR s).1 (tokR s).2.1 (tokR s).2.2 rfl h8 (same_self _ hlen K (by omega)) w hs
end Go.Proofs.Ytipggffdknonmaa.Tk
