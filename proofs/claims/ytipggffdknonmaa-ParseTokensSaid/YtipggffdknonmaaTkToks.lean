/- The walk of parse.Tokens: every text. -/
import Derived.Test.YtipggffdknonmaaTkWorld
import Derived.Test.YtipggffdknonmaaOParseTokensx2
namespace Go.Proofs.Ytipggffdknonmaa.Tk
open Go.RowKit Go.Proofs.YtipggffdknonmaaW.PrintWords Go.Proofs.YtipggffdknonmaaW.PrintLast Go.Proofs.YtipggffdknonmaaW.PrintMore Go.Proofs.Ytipggffdknonmaa.PParseTokens
attribute [local go_sem] max2_int min2_int max_two min_two max_three min_three max_four min_four
set_option linter.unusedVariables false
set_option linter.unusedSimpArgs false
/-- The kind of a letter and its greatest number. -/
def symL (c : Nat) : Int × Int := if c = 120 then (1, 63) else if c = 102 then (2, 99) else if c = 80 then (3, 99) else (0, 0)
/-- What Tokens tells of the rest of a text, from the byte p on, blanks up to next. -/
def tokF : List UInt8 → Nat → Nat → List S38 → List S38 × Int × Int
  | [], _, _, acc => (acc, 0, 0)
  | c :: l, p, next, acc =>
    if p < next ∨ c.toNat = 32 ∨ c.toNat = 9 then tokF l (p + 1) next acc
    else if (symL c.toNat).1 = 0 then
      if isSign (c.toNat : Int) then tokF l (p + 1) next (acc ++ [⟨4, (c.toNat : Int), (p : Int)⟩]) else ([], 30, (p : Int))
    else if (numL (symL c.toNat).2 l).2 = 0 then ([], 31, (p : Int))
    else tokF l (p + 1) (p + 1 + (numL (symL c.toNat).2 l).2.toNat) (acc ++ [⟨(symL c.toNat).1, (numL (symL c.toNat).2 l).1, (p : Int)⟩])
theorem numF_digits (most : Int) : ∀ (l : List UInt8) (n : Int) (k : Nat), k ≤ (numF most l n k).2 ∧ (numF most l n k).2 - k ≤ l.length ∧ ∀ q c, k + q < (numF most l n k).2 → l[q]? = some c → 48 ≤ c.toNat ∧ c.toNat ≤ 57
  | [], n, k => by simp only [numF]; exact ⟨Nat.le_refl _, by omega, fun q c h _ => by omega⟩
  | c :: l, n, k => by
    simp only [numF]
    split
    · rename_i hd
      obtain ⟨h1, h2, h3⟩ := numF_digits most l (if most + 1 < 10 * n + ((c.toNat : Int) - 48) then most + 1 else 10 * n + ((c.toNat : Int) - 48)) (k + 1)
      refine ⟨by omega, by simp only [List.length_cons]; omega, fun q c' hq hc => ?_⟩
      cases q with
      | zero => simp only [List.getElem?_cons_zero, Option.some.injEq] at hc; subst hc; exact hd
      | succ q => exact h3 q c' (by omega) (by simpa using hc)
    · exact ⟨Nat.le_refl _, by omega, fun q c' h _ => by omega⟩
theorem numL_digits (most : Int) (l : List UInt8) : 0 ≤ (numL most l).2 ∧ (numL most l).2 ≤ l.length ∧ ∀ (q : Nat) (c : UInt8), (q : Int) < (numL most l).2 → l[q]? = some c → 48 ≤ c.toNat ∧ c.toNat ≤ 57 := by
  obtain ⟨h1, h2, h3⟩ := numF_digits most l 0 0
  unfold numL
  split
  · exact ⟨Int.le_refl _, by simp, fun q c h _ => by simp at h; omega⟩
  · exact ⟨by simp, by simp; omega, fun q c h hc => h3 q c (by simp at h; omega) hc⟩
theorem numF_val (most : Int) (hm : 0 ≤ most) : ∀ (l : List UInt8) (n : Int) (k : Nat), 0 ≤ n → n ≤ most + 1 → 0 ≤ (numF most l n k).1 ∧ (numF most l n k).1 ≤ most + 1
  | [], n, k, h0, h1 => ⟨h0, h1⟩
  | c :: l, n, k, h0, h1 => by
    simp only [numF]
    split
    · exact numF_val most hm l _ _ (by split <;> omega) (by split <;> omega)
    · exact ⟨h0, h1⟩
theorem numL_val (most : Int) (hm : 0 ≤ most) (l : List UInt8) : 0 ≤ (numL most l).1 ∧ (numL most l).1 ≤ most + 1 := by
  unfold numL
  split
  · exact ⟨Int.le_refl _, by omega⟩
  · exact numF_val most hm l 0 0 (by omega) (by omega)
theorem extract_list (s : ByteArray) (p : Nat) : (s.extract p s.size).data.toList = s.data.toList.drop p := by
  rw [ByteArray.data_extract, Array.toList_extract]
  show (s.data.toList.drop p).take (s.size - p) = _
  exact List.take_of_length_le (by simp)
def TokPost (s : ByteArray) (w : World) (e : Ending) (w' : World) : Prop := ∃ v0 : Value, e = .returned (.tuple #[v0, .int .i64 (tokF s.data.toList 0 0 []).2.1, .int .i64 (tokF s.data.toList 0 0 []).2.2]) ∧ Kd.R k38 38 w' w.heap.size (fun _ => True) v0 (tokF s.data.toList 0 0 []).1 ∧ Below w.heap.size w w'
/-- What holds at the head of each round. -/
def Inv (s : ByteArray) (w : World) (l nx : Value) (w' : World) : Prop := ∃ (p next : Nat) (acc : List S38), nx = .int .i64 next ∧ p ≤ s.size ∧ next ≤ s.size ∧ (∀ q (h : q < s.size), p ≤ q → q < next → 48 ≤ (s[q]'h).toNat ∧ (s[q]'h).toNat ≤ 57) ∧
  Kd.R k38 38 w' w.heap.size (fun k => k ≠ w.heap.size) l acc ∧ w'.heap[w.heap.size]? = some (.stringIter s p) ∧ Below w.heap.size w w' ∧ acc.length ≤ p ∧ tokF (s.data.toList.drop p) p next acc = tokF s.data.toList 0 0 []
theorem it_below {W W' : World} {B : Nat} {o : Obj} (hb : Below W.heap.size W W') (h : W.heap[B]? = some o) : W'.heap[B]? = some o := (hb.block B (blk_lt' h)).trans h
theorem it_grown {W W' : World} {B : Nat} {o : Obj} {v : Value} (hg : W.grownBy W' v.ownBlock) (hv : ∀ k, v.ownBlock = some k → k ≠ B) (h : W.heap[B]? = some o) : W'.heap[B]? = some o :=
  (hg.block B (blk_lt' h) (fun e => hv B e.symm rfl)).trans h
theorem it_pos {W : World} {B : Nat} {s : ByteArray} {p : Nat} (h : W.heap[B]? = some (.stringIter s p)) : W.iterPos B = p := by
  simp only [World.iterPos, h]
theorem tok_skip {s : ByteArray} {p next : Nat} {acc : List S38} (h : p < s.size) (hc : p < next ∨ (s[p]'h).toNat = 32 ∨ (s[p]'h).toNat = 9) : tokF (s.data.toList.drop p) p next acc = tokF (s.data.toList.drop (p + 1)) (p + 1) next acc := by
  rw [drop_get s p h]
  simp only [tokF]
  rw [if_pos hc]
theorem tok_sign {s : ByteArray} {p next : Nat} {acc : List S38} (h : p < s.size) (hc : ¬ (p < next ∨ (s[p]'h).toNat = 32 ∨ (s[p]'h).toNat = 9)) (hs : (symL (s[p]'h).toNat).1 = 0) (hg : isSign ((s[p]'h).toNat : Int) = true) : tokF (s.data.toList.drop p) p next acc = tokF (s.data.toList.drop (p + 1)) (p + 1) next (acc ++ [⟨4, ((s[p]'h).toNat : Int), (p : Int)⟩]) := by
  rw [drop_get s p h]
  simp only [tokF]
  rw [if_neg hc, if_pos hs, if_pos hg]
theorem tok_byte {s : ByteArray} {p next : Nat} {acc : List S38} (h : p < s.size) (hc : ¬ (p < next ∨ (s[p]'h).toNat = 32 ∨ (s[p]'h).toNat = 9)) (hs : (symL (s[p]'h).toNat).1 = 0) (hg : isSign ((s[p]'h).toNat : Int) = false) : tokF (s.data.toList.drop p) p next acc = ([], 30, (p : Int)) := by
  rw [drop_get s p h]
  simp only [tokF]
  rw [if_neg hc, if_pos hs, hg, if_neg (by decide)]
theorem tok_bad {s : ByteArray} {p next c : Nat} {acc : List S38} {kd most n k : Int} (h : p < s.size) (hc : (s[p]'h).toNat = c) (hx : ¬ (p < next ∨ c = 32 ∨ c = 9)) (hs : symL c = (kd, most)) (hkd : kd ≠ 0) (hn : numL most (s.data.toList.drop (p + 1)) = (n, k)) (hk : k = 0) : tokF (s.data.toList.drop p) p next acc = ([], 31, (p : Int)) := by
  rw [drop_get s p h]
  simp only [tokF]
  rw [hc, if_neg hx, hs, if_neg hkd, hn, if_pos hk]
theorem tok_put {s : ByteArray} {p next c : Nat} {acc : List S38} {kd most n : Int} {k : Nat} (h : p < s.size) (hc : (s[p]'h).toNat = c) (hx : ¬ (p < next ∨ c = 32 ∨ c = 9)) (hs : symL c = (kd, most)) (hkd : kd ≠ 0) (hn : numL most (s.data.toList.drop (p + 1)) = (n, (k : Int))) (hk : k ≠ 0) : tokF (s.data.toList.drop p) p next acc = tokF (s.data.toList.drop (p + 1)) (p + 1) (p + 1 + k) (acc ++ [⟨kd, n, (p : Int)⟩]) := by
  rw [drop_get s p h]
  simp only [tokF]
  rw [hc, if_neg hx, hs, if_neg hkd, hn, if_neg (by simp only []; omega)]
  simp only []
  rw [show ((k : Int)).toNat = k from by omega]
theorem tok_end {s : ByteArray} {p next : Nat} {acc : List S38} (h : ¬ p < s.size) : tokF (s.data.toList.drop p) p next acc = (acc, 0, 0) := by
  rw [List.drop_eq_nil_of_le (by simp; omega)]; rfl
theorem dig_next {s : ByteArray} {p k : Nat} {most n : Int} (hn : numL most (s.data.toList.drop (p + 1)) = (n, (k : Int))) : p + 1 + k ≤ s.size ∨ k = 0 := by
  obtain ⟨_, h2, _⟩ := numL_digits most (s.data.toList.drop (p + 1))
  rw [hn] at h2
  simp at h2; omega
theorem dig_put {s : ByteArray} {p k : Nat} {most n : Int} (hn : numL most (s.data.toList.drop (p + 1)) = (n, (k : Int))) : ∀ q (h : q < s.size), p + 1 ≤ q → q < p + 1 + k → 48 ≤ (s[q]'h).toNat ∧ (s[q]'h).toNat ≤ 57 := by
  intro q h h1 h2
  obtain ⟨_, _, h3⟩ := numL_digits most (s.data.toList.drop (p + 1))
  refine h3 (q - (p + 1)) _ (by rw [hn]; simp only []; omega) ?_
  rw [List.getElem?_drop, show p + 1 + (q - (p + 1)) = q from by omega]
  have := drop_get s q h
  have h4 := congrArg (fun l => l[0]?) this
  simpa [List.getElem?_drop] using h4
set_option maxHeartbeats 4000000 in
set_option maxRecDepth 1000000 in
theorem tokens_small (s : ByteArray) (w : World) (hs : s.size ≤ 8000) :
    Calls Try.prog 7 #[.string s] w (TokPost s w) := by
  have hbig : decide (8000 < s.size) = false := decide_eq_false (by omega)
  have hbig2 : decide ((8000 : Int) < (s.size : Int)) = false := decide_eq_false (by omega)
  have hu38 := Try.underlying38
  go_enter Try.func7, Try.ntmps7
  go_wp2
  go_loopw [5, 6] (fun l nx w' => Inv s w l nx w') (fun _ _ w' => s.size - w'.iterPos w.heap.size)
  case atStart => exact ⟨0, 0, [], rfl, Nat.zero_le _, Nat.zero_le _, fun q h _ h' => by omega, Kd.R_nil _ _ _ _ _, World.iter_heap _ _ _, below_iter _ _ _, Nat.le_refl _, rfl⟩
  case round =>
    obtain ⟨p, next, acc, rfl, hp, hn, hdig, hR, hit, hB, hacc, hF⟩ := hrel
    have HDIG := Aside0.mk hdig
    have HR := Aside0.mk hR
    have HIT := Aside0.mk hit
    have HB := Aside0.mk hB
    have HF := Aside0.mk hF
    have HN := Aside0.mk hn
    clear hdig hR hit hB hF
    by_cases hlt : p < s.size
    · have HLT := Aside0.mk hlt
      by_cases hnx0 : p < next
      · have hnx := fun ty => next_low (P := Try.prog) wr w.heap.size s p ty HIT.out hlt (by have := HDIG.out p hlt (Nat.le_refl _) hnx0; omega)
        have t1 : decide (p < next) = true := decide_eq_true hnx0
        have t2 : decide ((p : Int) < (next : Int)) = true := decide_eq_true (by omega)
        have HX := Aside0.mk hnx0
        have HR1 := Aside0.mk (Kd.R_keep HR.out (setIt_keep wr w.heap.size s (p + 1)) (fun _ h => h))
        have HIT1 := Aside0.mk (setIt_at s (p + 1) (blk_lt' HIT.out))
        have HB1 := Aside0.mk (setIt_below s (p + 1) HB.out (Nat.le_refl _))
        go_wp2
        go_roundw
        case rel => exact ⟨p + 1, next, acc, rfl, HLT.out, HN.out, fun q h h1 h2 => HDIG.out q h (by omega) h2, HR1.out, HIT1.out, HB1.out, by omega, by rw [← HF.out, tok_skip HLT.out (.inl HX.out)]⟩
        case measure =>
          have hlt := HLT.out
          rw [it_pos HIT1.out, it_pos HIT.out]
          omega
      have t1 : decide (p < next) = false := decide_eq_false hnx0
      have t2 : decide ((p : Int) < (next : Int)) = false := decide_eq_false (by omega)
      have HX := Aside0.mk hnx0
      clear hnx0
      by_cases hc : (s[p]'hlt).toNat = 32
      · have hnx := fun ty => next_low (P := Try.prog) wr w.heap.size s p ty HIT.out hlt (by omega)
        rw [hc] at hnx
        have HCC := Aside0.mk hc
        clear hc
        have HR1 := Aside0.mk (Kd.R_keep HR.out (setIt_keep wr w.heap.size s (p + 1)) (fun _ h => h))
        have HIT1 := Aside0.mk (setIt_at s (p + 1) (blk_lt' HIT.out))
        have HB1 := Aside0.mk (setIt_below s (p + 1) HB.out (Nat.le_refl _))
        go_wp2
        go_roundw
        case rel => exact ⟨p + 1, next, acc, rfl, HLT.out, HN.out, fun q h h1 h2 => HDIG.out q h (by omega) h2, HR1.out, HIT1.out, HB1.out, by omega, by rw [← HF.out, tok_skip HLT.out (.inr (.inl HCC.out))]⟩
        case measure =>
          have hlt := HLT.out
          rw [it_pos HIT1.out, it_pos HIT.out]
          omega
      have HC32 := Aside0.mk hc
      clear hc
      by_cases hc : (s[p]'hlt).toNat = 9
      · have hnx := fun ty => next_low (P := Try.prog) wr w.heap.size s p ty HIT.out hlt (by omega)
        rw [hc] at hnx
        have HCC := Aside0.mk hc
        clear hc
        have HR1 := Aside0.mk (Kd.R_keep HR.out (setIt_keep wr w.heap.size s (p + 1)) (fun _ h => h))
        have HIT1 := Aside0.mk (setIt_at s (p + 1) (blk_lt' HIT.out))
        have HB1 := Aside0.mk (setIt_below s (p + 1) HB.out (Nat.le_refl _))
        go_wp2
        go_roundw
        case rel => exact ⟨p + 1, next, acc, rfl, HLT.out, HN.out, fun q h h1 h2 => HDIG.out q h (by omega) h2, HR1.out, HIT1.out, HB1.out, by omega, by rw [← HF.out, tok_skip HLT.out (.inr (.inr HCC.out))]⟩
        case measure =>
          have hlt := HLT.out
          rw [it_pos HIT1.out, it_pos HIT.out]
          omega
      have HC9 := Aside0.mk hc
      clear hc
      by_cases hc : (s[p]'hlt).toNat = 120
      · have hnx := fun ty => next_low (P := Try.prog) wr w.heap.size s p ty HIT.out hlt (by omega)
        rw [hc] at hnx
        have HCC := Aside0.mk hc
        clear hc
        have HR1 := Aside0.mk (Kd.R_keep HR.out (setIt_keep wr w.heap.size s (p + 1)) (fun _ h => h))
        have HIT1 := Aside0.mk (setIt_at s (p + 1) (blk_lt' HIT.out))
        have HB1 := Aside0.mk (setIt_below s (p + 1) HB.out (Nat.le_refl _))
        have SY := Aside0.mk (show parse_symbol.f 120 = some (1, 63) from rfl)
        have HSL := Aside0.mk (show symL 120 = (1, 63) from rfl)
        have HNX := Aside0.mk (show ¬ (p < next ∨ 120 = 32 ∨ 120 = 9) from by have := HX.out; omega)
        have HSZ := Aside0.mk (show (s.extract (p + 1) s.size).size ≤ 100000 from by simp; omega)
        obtain ⟨n, k, hnk⟩ : ∃ n k, numL 63 (s.data.toList.drop (p + 1)) = (n, k) := ⟨_, _, rfl⟩
        have HNE := Aside0.mk (show numL 63 (s.extract (p + 1) s.size).data.toList = (n, k) from by rw [extract_list]; exact hnk)
        have hv := numL_val 63 (by decide) (s.data.toList.drop (p + 1))
        have hd := numL_digits 63 (s.data.toList.drop (p + 1))
        rw [hnk] at hv hd
        obtain ⟨v0, v1⟩ := hv
        obtain ⟨d0, d1, _⟩ := hd
        simp only [] at v0 v1 d0 d1
        simp only [List.length_drop] at d1
        obtain ⟨k, rfl⟩ := Int.eq_ofNat_of_zero_le d0
        have hk8 : k ≤ 8000 := by simp at d1; omega
        clear d0 d1
        have HNK := Aside0.mk hnk
        clear hnk
        by_cases hk : k = 0
        · subst hk
          have HE := Aside0.mk (HF.out.symm.trans (tok_bad HLT.out HCC.out HNX.out HSL.out (by decide) HNK.out rfl))
          go_wp2_with (first | (go_at_call 15; (with_reducible refine (parse_symbol.calls 120 1 63 _ SY.out).mono ?_); rintro e w' ⟨rfl, ⟨nd, rfl⟩⟩) | (go_at_call 17; (with_reducible refine (number_at _ 63 n ((0 : Nat) : Int) _ HSZ.out (by decide) (by decide) HNE.out).mono ?_); rintro e w17 ⟨rfl, hb⟩; have n0_ := Aside0.mk (Kd.R_below (by (with_reducible repeat (first | apply Kd.R_alloc | apply Kd.R_drewN | apply Kd.R_drew)); exact HR1.out) hb); have n1_ := Aside0.mk (it_below hb HIT1.out); have n2_ := Aside0.mk (below_step (by repeat (first | (with_reducible first | exact HB1.out | apply below_alloc | apply pw_below_drewN | apply below_drew1) | exact HB1.out)) hb); clear HR1 HIT1 HB1 hb; have HR1 := n0_; have HIT1 := n1_; have HB1 := n2_; clear n0_ n1_ n2_))
          go_ret3
          exact ⟨.slice none 0 0, by rw [HE.out]; rfl, by rw [HE.out]; exact Kd.R_nil _ _ _ _ _, by repeat (first | (with_reducible first | exact HB1.out | apply below_alloc | apply pw_below_drewN | apply below_drew1) | exact HB1.out)⟩
        · have tk : ((k : Int) == 0) = false := beq_eq_false_iff_ne.mpr (by omega)
          have tk2 : (k == 0) = false := beq_eq_false_iff_ne.mpr hk
          have HKK := Aside0.mk hk
          clear hk
          go_wp2_with (first | (go_at_call 15; (with_reducible refine (parse_symbol.calls 120 1 63 _ SY.out).mono ?_); rintro e w' ⟨rfl, ⟨nd, rfl⟩⟩) | (go_at_call 17; (with_reducible refine (number_at _ 63 n (k : Int) _ HSZ.out (by decide) (by decide) HNE.out).mono ?_); rintro e w17 ⟨rfl, hb⟩; have n0_ := Aside0.mk (Kd.R_below (by (with_reducible repeat (first | apply Kd.R_alloc | apply Kd.R_drewN | apply Kd.R_drew)); exact HR1.out) hb); have n1_ := Aside0.mk (it_below hb HIT1.out); have n2_ := Aside0.mk (below_step (by repeat (first | (with_reducible first | exact HB1.out | apply below_alloc | apply pw_below_drewN | apply below_drew1) | exact HB1.out)) hb); clear HR1 HIT1 HB1 hb; have HR1 := n0_; have HIT1 := n1_; have HB1 := n2_; clear n0_ n1_ n2_) | ((with_reducible refine gate_builtin (b := .append) (xs := #[.tmp 63, .tmp 68]) rfl ?_); at_builtin; refine Kd.R_append k38 (w0 := w) w.heap.size rfl (.tmp 63) (.tmp 68) 22 38 (.agg #[(.int .i64 0), (.int .i64 0), (.int .i64 0)]) 24 rfl Try.underlying22 info38 rfl (by decide) (by omega) u5 acc (⟨1, n, (p : Int)⟩ : S38) [.int .i64 1, .int .i64 n, .int .i64 (p : Int)] (fun k => k ≠ w.heap.size) (fun _ => False) rfl rfl ?aP (fun _ hk => hk.elim) ?aF ?aO ?aB ?aS ?aL ?_; (case aP => exact k38_mkM _ _ _ (⟨1, n, (p : Int)⟩ : S38)); (case aB => exact (by repeat (first | (with_reducible first | exact HB1.out | apply below_alloc | apply pw_below_drewN | apply below_drew1) | exact HB1.out))); (case aF => exact (fun k_ hk => by have := blk_lt' HIT1.out; omega)); (case aO => exact (by (with_reducible repeat (first | apply Kd.R_alloc | apply Kd.R_drewN | apply Kd.R_drew)); exact HR1.out)); (case aS => exact (below_size (by repeat (first | (with_reducible first | exact HB1.out | apply below_alloc | apply pw_below_drewN | apply below_drew1) | exact HB1.out)))); (case aL => omega); intro v1 w1 ho hb hg hat; have n0_ := Aside0.mk ho; have n1_ := Aside0.mk (it_grown hg HR1.out.1 HIT1.out); have n2_ := Aside0.mk hb; clear HR1 HIT1 HB1 ho hb hg hat; have HR1 := n0_; have HIT1 := n1_; have HB1 := n2_; clear n0_ n1_ n2_))
          go_roundw
          case rel => exact ⟨p + 1, p + 1 + k, acc ++ [⟨1, n, (p : Int)⟩], by go_num, HLT.out, by have := dig_next HNK.out; have := HKK.out; omega, dig_put HNK.out, HR1.out, HIT1.out, HB1.out, by simp; omega, by rw [← HF.out, tok_put HLT.out HCC.out HNX.out HSL.out (by decide) HNK.out HKK.out]⟩
          case measure =>
            have hlt := HLT.out
            rw [it_pos HIT1.out, it_pos HIT.out]
            omega
      have HC120 := Aside0.mk hc
      clear hc
      by_cases hc : (s[p]'hlt).toNat = 102
      · have hnx := fun ty => next_low (P := Try.prog) wr w.heap.size s p ty HIT.out hlt (by omega)
        rw [hc] at hnx
        have HCC := Aside0.mk hc
        clear hc
        have HR1 := Aside0.mk (Kd.R_keep HR.out (setIt_keep wr w.heap.size s (p + 1)) (fun _ h => h))
        have HIT1 := Aside0.mk (setIt_at s (p + 1) (blk_lt' HIT.out))
        have HB1 := Aside0.mk (setIt_below s (p + 1) HB.out (Nat.le_refl _))
        have SY := Aside0.mk (show parse_symbol.f 102 = some (2, 99) from rfl)
        have HSL := Aside0.mk (show symL 102 = (2, 99) from rfl)
        have HNX := Aside0.mk (show ¬ (p < next ∨ 102 = 32 ∨ 102 = 9) from by have := HX.out; omega)
        have HSZ := Aside0.mk (show (s.extract (p + 1) s.size).size ≤ 100000 from by simp; omega)
        obtain ⟨n, k, hnk⟩ : ∃ n k, numL 99 (s.data.toList.drop (p + 1)) = (n, k) := ⟨_, _, rfl⟩
        have HNE := Aside0.mk (show numL 99 (s.extract (p + 1) s.size).data.toList = (n, k) from by rw [extract_list]; exact hnk)
        have hv := numL_val 99 (by decide) (s.data.toList.drop (p + 1))
        have hd := numL_digits 99 (s.data.toList.drop (p + 1))
        rw [hnk] at hv hd
        obtain ⟨v0, v1⟩ := hv
        obtain ⟨d0, d1, _⟩ := hd
        simp only [] at v0 v1 d0 d1
        simp only [List.length_drop] at d1
        obtain ⟨k, rfl⟩ := Int.eq_ofNat_of_zero_le d0
        have hk8 : k ≤ 8000 := by simp at d1; omega
        clear d0 d1
        have HNK := Aside0.mk hnk
        clear hnk
        by_cases hk : k = 0
        · subst hk
          have HE := Aside0.mk (HF.out.symm.trans (tok_bad HLT.out HCC.out HNX.out HSL.out (by decide) HNK.out rfl))
          go_wp2_with (first | (go_at_call 15; (with_reducible refine (parse_symbol.calls 102 2 99 _ SY.out).mono ?_); rintro e w' ⟨rfl, ⟨nd, rfl⟩⟩) | (go_at_call 17; (with_reducible refine (number_at _ 99 n ((0 : Nat) : Int) _ HSZ.out (by decide) (by decide) HNE.out).mono ?_); rintro e w17 ⟨rfl, hb⟩; have n0_ := Aside0.mk (Kd.R_below (by (with_reducible repeat (first | apply Kd.R_alloc | apply Kd.R_drewN | apply Kd.R_drew)); exact HR1.out) hb); have n1_ := Aside0.mk (it_below hb HIT1.out); have n2_ := Aside0.mk (below_step (by repeat (first | (with_reducible first | exact HB1.out | apply below_alloc | apply pw_below_drewN | apply below_drew1) | exact HB1.out)) hb); clear HR1 HIT1 HB1 hb; have HR1 := n0_; have HIT1 := n1_; have HB1 := n2_; clear n0_ n1_ n2_))
          go_ret3
          exact ⟨.slice none 0 0, by rw [HE.out]; rfl, by rw [HE.out]; exact Kd.R_nil _ _ _ _ _, by repeat (first | (with_reducible first | exact HB1.out | apply below_alloc | apply pw_below_drewN | apply below_drew1) | exact HB1.out)⟩
        · have tk : ((k : Int) == 0) = false := beq_eq_false_iff_ne.mpr (by omega)
          have tk2 : (k == 0) = false := beq_eq_false_iff_ne.mpr hk
          have HKK := Aside0.mk hk
          clear hk
          go_wp2_with (first | (go_at_call 15; (with_reducible refine (parse_symbol.calls 102 2 99 _ SY.out).mono ?_); rintro e w' ⟨rfl, ⟨nd, rfl⟩⟩) | (go_at_call 17; (with_reducible refine (number_at _ 99 n (k : Int) _ HSZ.out (by decide) (by decide) HNE.out).mono ?_); rintro e w17 ⟨rfl, hb⟩; have n0_ := Aside0.mk (Kd.R_below (by (with_reducible repeat (first | apply Kd.R_alloc | apply Kd.R_drewN | apply Kd.R_drew)); exact HR1.out) hb); have n1_ := Aside0.mk (it_below hb HIT1.out); have n2_ := Aside0.mk (below_step (by repeat (first | (with_reducible first | exact HB1.out | apply below_alloc | apply pw_below_drewN | apply below_drew1) | exact HB1.out)) hb); clear HR1 HIT1 HB1 hb; have HR1 := n0_; have HIT1 := n1_; have HB1 := n2_; clear n0_ n1_ n2_) | ((with_reducible refine gate_builtin (b := .append) (xs := #[.tmp 63, .tmp 68]) rfl ?_); at_builtin; refine Kd.R_append k38 (w0 := w) w.heap.size rfl (.tmp 63) (.tmp 68) 22 38 (.agg #[(.int .i64 0), (.int .i64 0), (.int .i64 0)]) 24 rfl Try.underlying22 info38 rfl (by decide) (by omega) u5 acc (⟨2, n, (p : Int)⟩ : S38) [.int .i64 2, .int .i64 n, .int .i64 (p : Int)] (fun k => k ≠ w.heap.size) (fun _ => False) rfl rfl ?aP (fun _ hk => hk.elim) ?aF ?aO ?aB ?aS ?aL ?_; (case aP => exact k38_mkM _ _ _ (⟨2, n, (p : Int)⟩ : S38)); (case aB => exact (by repeat (first | (with_reducible first | exact HB1.out | apply below_alloc | apply pw_below_drewN | apply below_drew1) | exact HB1.out))); (case aF => exact (fun k_ hk => by have := blk_lt' HIT1.out; omega)); (case aO => exact (by (with_reducible repeat (first | apply Kd.R_alloc | apply Kd.R_drewN | apply Kd.R_drew)); exact HR1.out)); (case aS => exact (below_size (by repeat (first | (with_reducible first | exact HB1.out | apply below_alloc | apply pw_below_drewN | apply below_drew1) | exact HB1.out)))); (case aL => omega); intro v1 w1 ho hb hg hat; have n0_ := Aside0.mk ho; have n1_ := Aside0.mk (it_grown hg HR1.out.1 HIT1.out); have n2_ := Aside0.mk hb; clear HR1 HIT1 HB1 ho hb hg hat; have HR1 := n0_; have HIT1 := n1_; have HB1 := n2_; clear n0_ n1_ n2_))
          go_roundw
          case rel => exact ⟨p + 1, p + 1 + k, acc ++ [⟨2, n, (p : Int)⟩], by go_num, HLT.out, by have := dig_next HNK.out; have := HKK.out; omega, dig_put HNK.out, HR1.out, HIT1.out, HB1.out, by simp; omega, by rw [← HF.out, tok_put HLT.out HCC.out HNX.out HSL.out (by decide) HNK.out HKK.out]⟩
          case measure =>
            have hlt := HLT.out
            rw [it_pos HIT1.out, it_pos HIT.out]
            omega
      have HC102 := Aside0.mk hc
      clear hc
      by_cases hc : (s[p]'hlt).toNat = 80
      · have hnx := fun ty => next_low (P := Try.prog) wr w.heap.size s p ty HIT.out hlt (by omega)
        rw [hc] at hnx
        have HCC := Aside0.mk hc
        clear hc
        have HR1 := Aside0.mk (Kd.R_keep HR.out (setIt_keep wr w.heap.size s (p + 1)) (fun _ h => h))
        have HIT1 := Aside0.mk (setIt_at s (p + 1) (blk_lt' HIT.out))
        have HB1 := Aside0.mk (setIt_below s (p + 1) HB.out (Nat.le_refl _))
        have SY := Aside0.mk (show parse_symbol.f 80 = some (3, 99) from rfl)
        have HSL := Aside0.mk (show symL 80 = (3, 99) from rfl)
        have HNX := Aside0.mk (show ¬ (p < next ∨ 80 = 32 ∨ 80 = 9) from by have := HX.out; omega)
        have HSZ := Aside0.mk (show (s.extract (p + 1) s.size).size ≤ 100000 from by simp; omega)
        obtain ⟨n, k, hnk⟩ : ∃ n k, numL 99 (s.data.toList.drop (p + 1)) = (n, k) := ⟨_, _, rfl⟩
        have HNE := Aside0.mk (show numL 99 (s.extract (p + 1) s.size).data.toList = (n, k) from by rw [extract_list]; exact hnk)
        have hv := numL_val 99 (by decide) (s.data.toList.drop (p + 1))
        have hd := numL_digits 99 (s.data.toList.drop (p + 1))
        rw [hnk] at hv hd
        obtain ⟨v0, v1⟩ := hv
        obtain ⟨d0, d1, _⟩ := hd
        simp only [] at v0 v1 d0 d1
        simp only [List.length_drop] at d1
        obtain ⟨k, rfl⟩ := Int.eq_ofNat_of_zero_le d0
        have hk8 : k ≤ 8000 := by simp at d1; omega
        clear d0 d1
        have HNK := Aside0.mk hnk
        clear hnk
        by_cases hk : k = 0
        · subst hk
          have HE := Aside0.mk (HF.out.symm.trans (tok_bad HLT.out HCC.out HNX.out HSL.out (by decide) HNK.out rfl))
          go_wp2_with (first | (go_at_call 15; (with_reducible refine (parse_symbol.calls 80 3 99 _ SY.out).mono ?_); rintro e w' ⟨rfl, ⟨nd, rfl⟩⟩) | (go_at_call 17; (with_reducible refine (number_at _ 99 n ((0 : Nat) : Int) _ HSZ.out (by decide) (by decide) HNE.out).mono ?_); rintro e w17 ⟨rfl, hb⟩; have n0_ := Aside0.mk (Kd.R_below (by (with_reducible repeat (first | apply Kd.R_alloc | apply Kd.R_drewN | apply Kd.R_drew)); exact HR1.out) hb); have n1_ := Aside0.mk (it_below hb HIT1.out); have n2_ := Aside0.mk (below_step (by repeat (first | (with_reducible first | exact HB1.out | apply below_alloc | apply pw_below_drewN | apply below_drew1) | exact HB1.out)) hb); clear HR1 HIT1 HB1 hb; have HR1 := n0_; have HIT1 := n1_; have HB1 := n2_; clear n0_ n1_ n2_))
          go_ret3
          exact ⟨.slice none 0 0, by rw [HE.out]; rfl, by rw [HE.out]; exact Kd.R_nil _ _ _ _ _, by repeat (first | (with_reducible first | exact HB1.out | apply below_alloc | apply pw_below_drewN | apply below_drew1) | exact HB1.out)⟩
        · have tk : ((k : Int) == 0) = false := beq_eq_false_iff_ne.mpr (by omega)
          have tk2 : (k == 0) = false := beq_eq_false_iff_ne.mpr hk
          have HKK := Aside0.mk hk
          clear hk
          go_wp2_with (first | (go_at_call 15; (with_reducible refine (parse_symbol.calls 80 3 99 _ SY.out).mono ?_); rintro e w' ⟨rfl, ⟨nd, rfl⟩⟩) | (go_at_call 17; (with_reducible refine (number_at _ 99 n (k : Int) _ HSZ.out (by decide) (by decide) HNE.out).mono ?_); rintro e w17 ⟨rfl, hb⟩; have n0_ := Aside0.mk (Kd.R_below (by (with_reducible repeat (first | apply Kd.R_alloc | apply Kd.R_drewN | apply Kd.R_drew)); exact HR1.out) hb); have n1_ := Aside0.mk (it_below hb HIT1.out); have n2_ := Aside0.mk (below_step (by repeat (first | (with_reducible first | exact HB1.out | apply below_alloc | apply pw_below_drewN | apply below_drew1) | exact HB1.out)) hb); clear HR1 HIT1 HB1 hb; have HR1 := n0_; have HIT1 := n1_; have HB1 := n2_; clear n0_ n1_ n2_) | ((with_reducible refine gate_builtin (b := .append) (xs := #[.tmp 63, .tmp 68]) rfl ?_); at_builtin; refine Kd.R_append k38 (w0 := w) w.heap.size rfl (.tmp 63) (.tmp 68) 22 38 (.agg #[(.int .i64 0), (.int .i64 0), (.int .i64 0)]) 24 rfl Try.underlying22 info38 rfl (by decide) (by omega) u5 acc (⟨3, n, (p : Int)⟩ : S38) [.int .i64 3, .int .i64 n, .int .i64 (p : Int)] (fun k => k ≠ w.heap.size) (fun _ => False) rfl rfl ?aP (fun _ hk => hk.elim) ?aF ?aO ?aB ?aS ?aL ?_; (case aP => exact k38_mkM _ _ _ (⟨3, n, (p : Int)⟩ : S38)); (case aB => exact (by repeat (first | (with_reducible first | exact HB1.out | apply below_alloc | apply pw_below_drewN | apply below_drew1) | exact HB1.out))); (case aF => exact (fun k_ hk => by have := blk_lt' HIT1.out; omega)); (case aO => exact (by (with_reducible repeat (first | apply Kd.R_alloc | apply Kd.R_drewN | apply Kd.R_drew)); exact HR1.out)); (case aS => exact (below_size (by repeat (first | (with_reducible first | exact HB1.out | apply below_alloc | apply pw_below_drewN | apply below_drew1) | exact HB1.out)))); (case aL => omega); intro v1 w1 ho hb hg hat; have n0_ := Aside0.mk ho; have n1_ := Aside0.mk (it_grown hg HR1.out.1 HIT1.out); have n2_ := Aside0.mk hb; clear HR1 HIT1 HB1 ho hb hg hat; have HR1 := n0_; have HIT1 := n1_; have HB1 := n2_; clear n0_ n1_ n2_))
          go_roundw
          case rel => exact ⟨p + 1, p + 1 + k, acc ++ [⟨3, n, (p : Int)⟩], by go_num, HLT.out, by have := dig_next HNK.out; have := HKK.out; omega, dig_put HNK.out, HR1.out, HIT1.out, HB1.out, by simp; omega, by rw [← HF.out, tok_put HLT.out HCC.out HNX.out HSL.out (by decide) HNK.out HKK.out]⟩
          case measure =>
            have hlt := HLT.out
            rw [it_pos HIT1.out, it_pos HIT.out]
            omega
      have HC80 := Aside0.mk hc
      clear hc
      have HNX := Aside0.mk (show ¬ (p < next ∨ (s[p]'hlt).toNat = 32 ∨ (s[p]'hlt).toNat = 9) from by have := HX.out; have := HC32.out; have := HC9.out; omega)
      have HSL := Aside0.mk (show (symL (s[p]'hlt).toNat).1 = 0 from by unfold symL; rw [if_neg HC120.out, if_neg HC102.out, if_neg HC80.out])
      cases hsg : isSign ((s[p]'hlt).toNat : Int) with
      | true =>
        have hlow : (s[p]'hlt).toNat < 128 := by
          unfold isSign at hsg
          have := of_decide_eq_true hsg
          omega
        have HE := Aside0.mk (tok_sign (acc := acc) HLT.out HNX.out HSL.out hsg)
        have hnx := fun ty => next_low (P := Try.prog) wr w.heap.size s p ty HIT.out hlt hlow
        have h32 := HC32.out
        have h9 := HC9.out
        have h120 := HC120.out
        have h102 := HC102.out
        have h80 := HC80.out
        clear HC32 HC9 HC120 HC102 HC80 HNX HSL
        generalize (s[p]'hlt).toNat = c at *
        have SY := Aside0.mk (show parse_symbol.f (c : Int) = some (0, 0) from by unfold parse_symbol.f; rw [if_neg (by omega), if_neg (by omega), if_neg (by omega)])
        have b1 : ((c : Int) == 32) = false := beq_eq_false_iff_ne.mpr (by omega)
        have b2 : ((c : Int) == 9) = false := beq_eq_false_iff_ne.mpr (by omega)
        clear h32 h9 h120 h102 h80
        have HSG := Aside0.mk hsg
        clear hsg
        have HR1 := Aside0.mk (Kd.R_keep HR.out (setIt_keep wr w.heap.size s (p + 1)) (fun _ h => h))
        have HIT1 := Aside0.mk (setIt_at s (p + 1) (blk_lt' HIT.out))
        have HB1 := Aside0.mk (setIt_below s (p + 1) HB.out (Nat.le_refl _))
        go_wp2_with (first | (go_at_call 15; (with_reducible refine (parse_symbol.calls (c : Int) 0 0 _ SY.out).mono ?_); rintro e w' ⟨rfl, ⟨nd, rfl⟩⟩) | (go_at_call 16; refine (contains_any (c : Int) _ (by omega) (by omega)).mono ?_; rintro e w16 ⟨rfl, hb⟩; rw [HSG.out]; have n0_ := Aside0.mk (Kd.R_below (by (with_reducible repeat (first | apply Kd.R_alloc | apply Kd.R_drewN | apply Kd.R_drew)); exact HR1.out) hb); have n1_ := Aside0.mk (it_below hb HIT1.out); have n2_ := Aside0.mk (below_step (by repeat (first | (with_reducible first | exact HB1.out | apply below_alloc | apply pw_below_drewN | apply below_drew1) | exact HB1.out)) hb); clear HR1 HIT1 HB1 hb; have HR1 := n0_; have HIT1 := n1_; have HB1 := n2_; clear n0_ n1_ n2_) | ((with_reducible refine gate_builtin (b := .append) (xs := #[.tmp 44, .tmp 49]) rfl ?_); at_builtin; refine Kd.R_append k38 (w0 := w) w.heap.size rfl (.tmp 44) (.tmp 49) 22 38 (.agg #[(.int .i64 0), (.int .i64 0), (.int .i64 0)]) 24 rfl Try.underlying22 info38 rfl (by decide) (by omega) u5 acc (⟨4, (c : Int), (p : Int)⟩ : S38) [.int .i64 4, .int .i64 (c : Int), .int .i64 (p : Int)] (fun k => k ≠ w.heap.size) (fun _ => False) rfl rfl ?aP (fun _ hk => hk.elim) ?aF ?aO ?aB ?aS ?aL ?_; (case aP => exact k38_mkM _ _ _ (⟨4, (c : Int), (p : Int)⟩ : S38)); (case aB => exact (by repeat (first | (with_reducible first | exact HB1.out | apply below_alloc | apply pw_below_drewN | apply below_drew1) | exact HB1.out))); (case aF => exact (fun k_ hk => by have := blk_lt' HIT1.out; omega)); (case aO => exact (by (with_reducible repeat (first | apply Kd.R_alloc | apply Kd.R_drewN | apply Kd.R_drew)); exact HR1.out)); (case aS => exact (below_size (by repeat (first | (with_reducible first | exact HB1.out | apply below_alloc | apply pw_below_drewN | apply below_drew1) | exact HB1.out)))); (case aL => omega); intro v1 w1 ho hb hg hat; have n0_ := Aside0.mk ho; have n1_ := Aside0.mk (it_grown hg HR1.out.1 HIT1.out); have n2_ := Aside0.mk hb; clear HR1 HIT1 HB1 ho hb hg hat; have HR1 := n0_; have HIT1 := n1_; have HB1 := n2_; clear n0_ n1_ n2_))
        go_roundw
        case rel => exact ⟨p + 1, next, acc ++ [⟨4, (c : Int), (p : Int)⟩], rfl, HLT.out, HN.out, fun q h h1 h2 => HDIG.out q h (by omega) h2, HR1.out, HIT1.out, HB1.out, by simp; omega, by rw [← HF.out, HE.out]⟩
        case measure =>
          have hlt := HLT.out
          rw [it_pos HIT1.out, it_pos HIT.out]
          omega
      | false =>
        have HE := Aside0.mk (HF.out.symm.trans (tok_byte HLT.out HNX.out HSL.out hsg))
        obtain ⟨R, W, hR0, hR1, hRs, n1, n2, n3, n4, n5, hnx⟩ : ∃ (R : Nat) (W : Nat), 0 ≤ R ∧ R ≤ 2147483647 ∧ isSign (R : Int) = false ∧ R ≠ 32 ∧ R ≠ 9 ∧ R ≠ 120 ∧ R ≠ 102 ∧ R ≠ 80 ∧ ∀ ty, (Instr.next (.pointer (some ⟨w.heap.size, 0, none⟩)) true ty).run Try.prog wr = .ok (.tuple #[.bool true, .int .i64 p, .int .i32 (R : Int)]) (setIt wr w.heap.size s W) := by
          by_cases hlow : (s[p]'hlt).toNat < 128
          · exact ⟨_, _, Nat.zero_le _, by omega, hsg, HC32.out, HC9.out, HC120.out, HC102.out, HC80.out, fun ty => next_low (P := Try.prog) wr w.heap.size s p ty HIT.out hlt hlow⟩
          · have h128 := (decode_high s p hlt (by omega)).1
            refine ⟨_, _, Nat.zero_le _, decode_le s p, ?_, by omega, by omega, by omega, by omega, by omega, fun ty => next_any (P := Try.prog) wr w.heap.size s p ty HIT.out hlt⟩
            unfold isSign
            exact decide_eq_false (by omega)
        have SY := Aside0.mk (show parse_symbol.f (R : Int) = some (0, 0) from by unfold parse_symbol.f; rw [if_neg (by omega), if_neg (by omega), if_neg (by omega)])
        have b1 : ((R : Int) == 32) = false := beq_eq_false_iff_ne.mpr (by omega)
        have b2 : ((R : Int) == 9) = false := beq_eq_false_iff_ne.mpr (by omega)
        clear n1 n2 n3 n4 n5 hR0 hsg
        have HSG := Aside0.mk hRs
        clear hRs
        have HR1 := Aside0.mk (Kd.R_keep HR.out (setIt_keep wr w.heap.size s (W)) (fun _ h => h))
        have HIT1 := Aside0.mk (setIt_at s (W) (blk_lt' HIT.out))
        have HB1 := Aside0.mk (setIt_below s (W) HB.out (Nat.le_refl _))
        go_wp2_with (first | (go_at_call 15; (with_reducible refine (parse_symbol.calls (R : Int) 0 0 _ SY.out).mono ?_); rintro e w' ⟨rfl, ⟨nd, rfl⟩⟩) | (go_at_call 16; refine (contains_any (R : Int) _ (by omega) (by omega)).mono ?_; rintro e w16 ⟨rfl, hb⟩; rw [HSG.out]; have n0_ := Aside0.mk (Kd.R_below (by (with_reducible repeat (first | apply Kd.R_alloc | apply Kd.R_drewN | apply Kd.R_drew)); exact HR1.out) hb); have n1_ := Aside0.mk (it_below hb HIT1.out); have n2_ := Aside0.mk (below_step (by repeat (first | (with_reducible first | exact HB1.out | apply below_alloc | apply pw_below_drewN | apply below_drew1) | exact HB1.out)) hb); clear HR1 HIT1 HB1 hb; have HR1 := n0_; have HIT1 := n1_; have HB1 := n2_; clear n0_ n1_ n2_))
        go_ret3
        exact ⟨.slice none 0 0, by rw [HE.out]; rfl, by rw [HE.out]; exact Kd.R_nil _ _ _ _ _, by repeat (first | (with_reducible first | exact HB1.out | apply below_alloc | apply pw_below_drewN | apply below_drew1) | exact HB1.out)⟩
    · have hnx := fun ty => next_end (P := Try.prog) wr w.heap.size s p ty HIT.out hlt
      have HE := Aside0.mk (HF.out.symm.trans (tok_end hlt))
      go_wp2
      go_ret3
      exact ⟨u5, by rw [HE.out]; rfl, by rw [HE.out]; exact Kd.R_mono HR.out (fun _ _ => trivial), HB.out⟩
end Go.Proofs.Ytipggffdknonmaa.Tk
