/- stamp.Same: two lists of what is told are one just if they are equal. -/
import Derived.Test.YtgfokmgbphhpjaaPStampSamex6
import Derived.WalkSpells
namespace Go.Proofs.Ytgfokmgbphhpjaa.StS
open Go.RowKit Go.Proofs.YtgfokmgbphhpjaaW.PrintWords Go.Proofs.YtgfokmgbphhpjaaW.PrintLast Go.Proofs.YtgfokmgbphhpjaaW.PrintMore Go.Proofs.Ytgfokmgbphhpjaa.PStampSame
open Classical
set_option linter.unusedVariables false
set_option linter.unusedSimpArgs false
abbrev ex (f0 f1 : Int) (A : Option Addr) (n c : Nat) : Value := .agg #[.int .i64 f0, .int .i64 f1, .slice A n c]
/-- What 'alike' answers of an expression whose parts are xs. -/
def AlikeP (xs : List S67) : Prop := ∀ (f0 f1 : Int) (A : Option Addr) (c : Nat) (g0 g1 : Int) (ys : List S67) (B : Option Addr) (d : Nat) (w : World), Kd.C k67 w A xs.length xs → xs.length ≤ c → Kd.C k67 w B ys.length ys → ys.length ≤ d →
  Calls Try.prog 53 #[ex f0 f1 A xs.length c, ex g0 g1 B ys.length d] w fun e w' => e = .returned (.bool (decide (f0 = g0 ∧ f1 = g1 ∧ xs = ys))) ∧ Below w.heap.size w w'
theorem rd_get {xs : List S67} {k : Nat} (h : k < xs.length) : rd_T67 xs k = xs[k] := by
  unfold rd_T67
  rw [Int.toNat_natCast, List.getD_eq_getElem?_getD, List.getElem?_eq_getElem h]; rfl
theorem s67_eq (a b : S67) : a = b ↔ a.f0 = b.f0 ∧ a.f1 = b.f1 ∧ a.f2 = b.f2 := by
  cases a; cases b
  simp
theorem take_same {α : Type} {xs ys : List α} {k : Nat} (h : xs.take k = ys.take k) (h1 : k < xs.length) (h2 : k < ys.length) (e : xs[k] = ys[k]) : xs.take (k + 1) = ys.take (k + 1) := by
  rw [List.take_succ_eq_append_getElem h1, List.take_succ_eq_append_getElem h2, h, e]
set_option maxHeartbeats 4000000 in
set_option maxRecDepth 1000000 in
theorem eqf69 (xs ys : List S67) (IH : ∀ x ∈ xs, AlikeP x.f2) (A : Option Addr) (c : Nat) (B : Option Addr) (d : Nat) (w : World) (hA : Kd.C k67 w A xs.length xs) (hc : xs.length ≤ c) (hB : Kd.C k67 w B ys.length ys) (hd : ys.length ≤ d) :
    Calls Try.prog 69 #[.slice A xs.length c, .slice B ys.length d, .func (.func 53) #[] #[]] w fun e w' => e = .returned (.bool (decide (xs = ys))) ∧ Below w.heap.size w w' := by
  have HA := Aside0.mk hA
  have HB := Aside0.mk hB
  have HIH := Aside0.mk IH
  have HMX := Aside0.mk hA.2.1
  clear hA hB IH hc hd
  by_cases hl : xs.length = ys.length
  · have p0 : ((xs.length : Int) != (ys.length : Int)) = false := by simp [hl]
    have HL := Aside0.mk hl
    clear hl
    go_enter Try.func69, Try.ntmps69
    go_wp2
    go_loopw [17] (fun i wr => ∃ k : Nat, i = .int .i64 k ∧ k ≤ xs.length ∧ xs.take k = ys.take k ∧ Below w.heap.size w wr) (fun i _ => xs.length - (intOf i).toNat)
    case atStart => exact ⟨0, rfl, Nat.zero_le _, rfl, Below.refl _ _⟩
    case round =>
      obtain ⟨k, rfl, hk, ht, hb⟩ := hrel
      have HT := Aside0.mk ht
      have HBW := Aside0.mk hb
      clear ht hb
      by_cases hlt : k < xs.length
      · have hly : k < ys.length := by have := HL.out; omega
        have q0 := eq_true (show (k : Int) < (xs.length : Int) by omega)
        obtain ⟨ad, A2, c2, ead, hx0, hx1, hx2, hxl, hxC⟩ := at_T67 HA.out k (Int.natCast_nonneg k) (by omega)
        obtain ⟨bd, B2, d2, ebd, hy0, hy1, hy2, hyl, hyC⟩ := at_T67 HB.out k (Int.natCast_nonneg k) (by omega)
        subst ead ebd
        simp only [Int.toNat_natCast] at hx0 hx1 hx2 hy0 hy1 hy2
        replace hx0 := pw_cell_below HBW.out hx0
        replace hx1 := pw_cell_below HBW.out hx1
        replace hx2 := pw_cell_below HBW.out hx2
        replace hy0 := pw_cell_below HBW.out hy0
        replace hy1 := pw_cell_below HBW.out hy1
        replace hy2 := pw_cell_below HBW.out hy2
        have HX := Aside0.mk (rd_get hlt)
        have HY := Aside0.mk (rd_get hly)
        have HP := Aside0.mk (HIH.out (rd_T67 xs k) (by rw [rd_get hlt]; exact List.getElem_mem _))
        obtain ⟨x, hx⟩ : ∃ x, rd_T67 xs k = x := ⟨_, rfl⟩
        obtain ⟨y, hy⟩ : ∃ y, rd_T67 ys k = y := ⟨_, rfl⟩
        rw [hx] at hx0 hx1 hx2 hxl hxC HX HP
        rw [hy] at hy0 hy1 hy2 hyl hyC HY
        have HXC := Aside0.mk hxC
        have HYC := Aside0.mk hyC
        have HXL := Aside0.mk hxl
        have HYL := Aside0.mk hyl
        clear hxC hyC hxl hyl hx hy
        have hz0 := (World.cell?_alloc_lt wr (.cells #[.int .i64 x.f0, .int .i64 x.f1, .slice A2 x.f2.length c2] 67) _ (World.block_lt_of_cell? _ _ hy0)).trans hy0
        have hz1 := (World.cell?_alloc_lt wr (.cells #[.int .i64 x.f0, .int .i64 x.f1, .slice A2 x.f2.length c2] 67) _ (World.block_lt_of_cell? _ _ hy1)).trans hy1
        have hz2 := (World.cell?_alloc_lt wr (.cells #[.int .i64 x.f0, .int .i64 x.f1, .slice A2 x.f2.length c2] 67) _ (World.block_lt_of_cell? _ _ hy2)).trans hy2
        go_wp2_with fail
        clear hx0 hx1 hx2 hy0 hy1 hy2 hz0 hz1 hz2
        have HB1 := Aside0.mk (below_alloc (below_alloc (Below.refl wr.heap.size wr) (.cells #[.int .i64 x.f0, .int .i64 x.f1, .slice A2 x.f2.length c2] 67)) (.cells #[.int .i64 y.f0, .int .i64 y.f1, .slice B2 y.f2.length d2] 67))
        have HB2 := Aside0.mk (HBW.out.trans (HB1.out.mono HBW.out.size))
        refine (HP.out x.f0 x.f1 A2 c2 y.f0 y.f1 y.f2 B2 d2 _ (Kd.C_below HXC.out HB2.out) HXL.out (Kd.C_below HYC.out HB2.out) HYL.out).mono ?_
        rintro e w3 ⟨rfl, hb⟩
        have HB3 := Aside0.mk (HB2.out.trans (hb.mono HB2.out.size))
        clear hb
        by_cases he : x.f0 = y.f0 ∧ x.f1 = y.f1 ∧ x.f2 = y.f2
        · have e1 : decide (x.f0 = y.f0 ∧ x.f1 = y.f1 ∧ x.f2 = y.f2) = true := decide_eq_true he
          rw [e1]
          have HT2 := Aside0.mk (take_same HT.out hlt hly (by rw [← HX.out, ← HY.out]; exact (s67_eq x y).2 he))
          have hmx := HMX.out
          clear he e1
          go_wp2
          go_roundw
          case rel => exact ⟨k + 1, by go_num, by omega, HT2.out, HB3.out⟩
          case measure => simp [intOf]; omega
        · have e1 : decide (x.f0 = y.f0 ∧ x.f1 = y.f1 ∧ x.f2 = y.f2) = false := decide_eq_false he
          rw [e1]
          have HN := Aside0.mk (show decide (xs = ys) = false from decide_eq_false (fun e => he ((s67_eq x y).1 (by rw [HX.out, HY.out]; simp only [e]))))
          clear he e1
          go_wp2
          go_ret
          exact ⟨by rw [HN.out]; rfl, HB3.out⟩
      · have q0 : decide ((k : Int) < (xs.length : Int)) = false := decide_eq_false (by omega)
        have hkn : k = xs.length := by omega
        have HN := Aside0.mk (show decide (xs = ys) = true from decide_eq_true (by
          have := HT.out
          rw [hkn, List.take_length] at this
          rw [this, HL.out, List.take_length]))
        clear hkn
        go_wp2
        go_ret
        exact ⟨by rw [HN.out]; rfl, HBW.out⟩
  · have p0 : ((xs.length : Int) != (ys.length : Int)) = true := by simp; omega
    have HN := Aside0.mk (show decide (xs = ys) = false from decide_eq_false (fun e => hl (by rw [e])))
    clear hl
    go_enter Try.func69, Try.ntmps69
    go_wp2
    go_ret
    exact ⟨by rw [HN.out]; rfl, Below.refl _ _⟩
set_option maxHeartbeats 4000000 in
set_option maxRecDepth 1000000 in
theorem alike_of (xs : List S67) (IH : ∀ x ∈ xs, AlikeP x.f2) : AlikeP xs := by
  intro f0 f1 A c g0 g1 ys B d w hA hc hB hd
  have hb1 := below_alloc (below_alloc (Below.refl w.heap.size w) (.cells #[.int .i64 f0, .int .i64 f1, .slice A xs.length c] 67)) (.cells #[.int .i64 g0, .int .i64 g1, .slice B ys.length d] 67)
  have HA := Aside0.mk (Kd.C_below hA hb1)
  have HB := Aside0.mk (Kd.C_below hB hb1)
  have HC := Aside0.mk hc
  have HD := Aside0.mk hd
  have HIH := Aside0.mk IH
  have HB1 := Aside0.mk hb1
  clear hA hB hc hd IH hb1
  by_cases h0 : f0 = g0
  · by_cases h1 : f1 = g1
    · have e0 : (f0 == g0) = true := by simp [h0]
      have e1 : (f1 == g1) = true := by simp [h1]
      have HE := Aside0.mk (show decide (f0 = g0 ∧ f1 = g1 ∧ xs = ys) = decide (xs = ys) from by simp [h0, h1])
      clear h0 h1
      go_enter Try.func53, Try.ntmps53
      go_wp2_with fail
      refine (eqf69 xs ys HIH.out A c B d _ HA.out HC.out HB.out HD.out).mono ?_
      rintro e w3 ⟨rfl, hb⟩
      have HB3 := Aside0.mk (HB1.out.trans (hb.mono HB1.out.size))
      clear hb
      obtain ⟨r, hr⟩ : ∃ r, decide (xs = ys) = r := ⟨_, rfl⟩
      rw [hr] at HE ⊢
      clear hr
      go_wp2
      go_ret
      exact ⟨by rw [HE.out]; rfl, HB3.out⟩
    · have e0 : (f0 == g0) = true := by simp [h0]
      have e1 : (f1 == g1) = false := by simp [h1]
      have HE := Aside0.mk (show decide (f0 = g0 ∧ f1 = g1 ∧ xs = ys) = false from by simp [h1])
      clear h0 h1
      go_enter Try.func53, Try.ntmps53
      go_wp2
      go_ret
      exact ⟨by rw [HE.out]; rfl, HB1.out⟩
  · have e0 : (f0 == g0) = false := by simp [h0]
    have HE := Aside0.mk (show decide (f0 = g0 ∧ f1 = g1 ∧ xs = ys) = false from by simp [h0])
    clear h0
    go_enter Try.func53, Try.ntmps53
    go_wp2
    go_ret
    exact ⟨by rw [HE.out]; rfl, HB1.out⟩
theorem alike_all (n : Nat) : ∀ xs : List S67, SizeOf.sizeOf xs ≤ n → AlikeP xs := by
  induction n with
  | zero => intro xs h; cases xs <;> simp at h
  | succ n ih =>
    intro xs h
    refine alike_of xs (fun x hx => ih x.f2 ?_)
    have h1 := List.sizeOf_lt_of_mem hx
    have h2 : SizeOf.sizeOf x.f2 < SizeOf.sizeOf x := by cases x; simp; omega
    omega
theorem alike_calls (xs : List S67) : AlikeP xs := alike_all _ xs (Nat.le_refl _)
abbrev cs9 (x : S69) (A : Option Addr) (c : Nat) : Array Value := #[.string x.f0, .bool x.f1, .int .i64 x.f2.f0, .int .i64 x.f2.f1, .slice A x.f2.f2.length c]
theorem rd_get9 {xs : List S69} {k : Nat} (h : k < xs.length) : rd_T69 xs k = xs[k] := by
  unfold rd_T69
  rw [Int.toNat_natCast, List.getD_eq_getElem?_getD, List.getElem?_eq_getElem h]; rfl
theorem s69_eq (a b : S69) : a = b ↔ a.f0 = b.f0 ∧ a.f1 = b.f1 ∧ a.f2.f0 = b.f2.f0 ∧ a.f2.f1 = b.f2.f1 ∧ a.f2.f2 = b.f2.f2 := by
  cases a; cases b
  simp [s67_eq]
set_option maxHeartbeats 4000000 in
set_option maxRecDepth 1000000 in
theorem same1_calls (x y : S69) (A : Option Addr) (c : Nat) (B : Option Addr) (d : Nat) (w : World) (hA : Kd.C k67 w A x.f2.f2.length x.f2.f2) (hc : x.f2.f2.length ≤ c) (hB : Kd.C k67 w B y.f2.f2.length y.f2.f2) (hd : y.f2.f2.length ≤ d) :
    Calls Try.prog 52 #[.agg (cs9 x A c), .agg (cs9 y B d)] w fun e w' => e = .returned (.bool (decide (x = y))) ∧ Below w.heap.size w w' := by
  have hb1 := below_alloc (below_alloc (Below.refl w.heap.size w) (.cells (cs9 x A c) 69)) (.cells (cs9 y B d) 69)
  have HA := Aside0.mk (Kd.C_below hA hb1)
  have HB := Aside0.mk (Kd.C_below hB hb1)
  have HC := Aside0.mk hc
  have HD := Aside0.mk hd
  have HB1 := Aside0.mk hb1
  clear hA hB hc hd hb1
  by_cases h0 : x.f0 = y.f0
  · have e0' : (x.f0.toList == y.f0.toList) = true := by simp [h0]
    by_cases h1 : x.f1 = y.f1
    · have e1 : (x.f1 == y.f1) = true := by simp [h1]
      have HE := Aside0.mk (show decide (x = y) = decide (x.f2.f0 = y.f2.f0 ∧ x.f2.f1 = y.f2.f1 ∧ x.f2.f2 = y.f2.f2) from by rw [decide_eq_decide, s69_eq]; simp [h0, h1])
      clear h0 h1
      go_enter Try.func52, Try.ntmps52
      go_wp2_with fail
      refine (alike_calls x.f2.f2 x.f2.f0 x.f2.f1 A c y.f2.f0 y.f2.f1 y.f2.f2 B d _ HA.out HC.out HB.out HD.out).mono ?_
      rintro e w3 ⟨rfl, hb⟩
      have HB3 := Aside0.mk (HB1.out.trans (hb.mono HB1.out.size))
      clear hb
      obtain ⟨r, hr⟩ : ∃ r, decide (x.f2.f0 = y.f2.f0 ∧ x.f2.f1 = y.f2.f1 ∧ x.f2.f2 = y.f2.f2) = r := ⟨_, rfl⟩
      rw [hr] at HE ⊢
      clear hr
      go_wp2
      go_ret
      exact ⟨by rw [HE.out]; rfl, HB3.out⟩
    · have e1 : (x.f1 == y.f1) = false := by simp [h1]
      have HE := Aside0.mk (show decide (x = y) = false from decide_eq_false (fun e => h1 ((s69_eq x y).1 e).2.1))
      clear h0 h1
      go_enter Try.func52, Try.ntmps52
      go_wp2
      go_ret
      exact ⟨by rw [HE.out]; rfl, HB1.out⟩
  · have hdata : x.f0.toList ≠ y.f0.toList := fun e => h0 (by
      rw [ByteArray.toList_eq, ByteArray.toList_eq] at e
      exact ByteArray.ext (Array.toList_inj.1 e))
    have e0' : (x.f0.toList == y.f0.toList) = false := by simp [hdata]
    have HE := Aside0.mk (show decide (x = y) = false from decide_eq_false (fun e => h0 ((s69_eq x y).1 e).1))
    clear h0 hdata
    go_enter Try.func52, Try.ntmps52
    go_wp2
    go_ret
    exact ⟨by rw [HE.out]; rfl, HB1.out⟩
set_option maxHeartbeats 4000000 in
set_option maxRecDepth 1000000 in
theorem eqf51 (xs ys : List S69) (A : Option Addr) (c : Nat) (B : Option Addr) (d : Nat) (w : World) (hA : Kd.C k69 w A xs.length xs) (hc : xs.length ≤ c) (hB : Kd.C k69 w B ys.length ys) (hd : ys.length ≤ d) :
    Calls Try.prog 51 #[.slice A xs.length c, .slice B ys.length d, .func (.func 52) #[] #[]] w fun e w' => e = .returned (.bool (decide (xs = ys))) ∧ Below w.heap.size w w' := by
  have HA := Aside0.mk hA
  have HB := Aside0.mk hB
  have HMX := Aside0.mk hA.2.1
  clear hA hB hc hd
  by_cases hl : xs.length = ys.length
  · have p0 : ((xs.length : Int) != (ys.length : Int)) = false := by simp [hl]
    have HL := Aside0.mk hl
    clear hl
    go_enter Try.func51, Try.ntmps51
    go_wp2
    go_loopw [17] (fun i wr => ∃ k : Nat, i = .int .i64 k ∧ k ≤ xs.length ∧ xs.take k = ys.take k ∧ Below w.heap.size w wr) (fun i _ => xs.length - (intOf i).toNat)
    case atStart => exact ⟨0, rfl, Nat.zero_le _, rfl, Below.refl _ _⟩
    case round =>
      obtain ⟨k, rfl, hk, ht, hb⟩ := hrel
      have HT := Aside0.mk ht
      have HBW := Aside0.mk hb
      clear ht hb
      by_cases hlt : k < xs.length
      · have hly : k < ys.length := by have := HL.out; omega
        have q0 := eq_true (show (k : Int) < (xs.length : Int) by omega)
        obtain ⟨ad, A2, c2, ead, hx0, hx1, hx2, hx3, hx4, hxl, hxC⟩ := at_T69 HA.out k (Int.natCast_nonneg k) (by omega)
        obtain ⟨bd, B2, d2, ebd, hy0, hy1, hy2, hy3, hy4, hyl, hyC⟩ := at_T69 HB.out k (Int.natCast_nonneg k) (by omega)
        subst ead ebd
        simp only [Int.toNat_natCast] at hx0 hx1 hx2 hx3 hx4 hy0 hy1 hy2 hy3 hy4
        replace hx0 := pw_cell_below HBW.out hx0
        replace hx1 := pw_cell_below HBW.out hx1
        replace hx2 := pw_cell_below HBW.out hx2
        replace hx3 := pw_cell_below HBW.out hx3
        replace hx4 := pw_cell_below HBW.out hx4
        replace hy0 := pw_cell_below HBW.out hy0
        replace hy1 := pw_cell_below HBW.out hy1
        replace hy2 := pw_cell_below HBW.out hy2
        replace hy3 := pw_cell_below HBW.out hy3
        replace hy4 := pw_cell_below HBW.out hy4
        have HX := Aside0.mk (rd_get9 hlt)
        have HY := Aside0.mk (rd_get9 hly)
        obtain ⟨x, hx⟩ : ∃ x, rd_T69 xs k = x := ⟨_, rfl⟩
        obtain ⟨y, hy⟩ : ∃ y, rd_T69 ys k = y := ⟨_, rfl⟩
        rw [hx] at hx0 hx1 hx2 hx3 hx4 hxl hxC HX
        rw [hy] at hy0 hy1 hy2 hy3 hy4 hyl hyC HY
        have HXC := Aside0.mk hxC
        have HYC := Aside0.mk hyC
        have HXL := Aside0.mk hxl
        have HYL := Aside0.mk hyl
        clear hxC hyC hxl hyl hx hy
        have hz0 := (World.cell?_alloc_lt wr (.cells (cs9 x A2 c2) 69) _ (World.block_lt_of_cell? _ _ hy0)).trans hy0
        have hz1 := (World.cell?_alloc_lt wr (.cells (cs9 x A2 c2) 69) _ (World.block_lt_of_cell? _ _ hy1)).trans hy1
        have hz2 := (World.cell?_alloc_lt wr (.cells (cs9 x A2 c2) 69) _ (World.block_lt_of_cell? _ _ hy2)).trans hy2
        have hz3 := (World.cell?_alloc_lt wr (.cells (cs9 x A2 c2) 69) _ (World.block_lt_of_cell? _ _ hy3)).trans hy3
        have hz4 := (World.cell?_alloc_lt wr (.cells (cs9 x A2 c2) 69) _ (World.block_lt_of_cell? _ _ hy4)).trans hy4
        go_wp2_with fail
        clear hx0 hx1 hx2 hx3 hx4 hy0 hy1 hy2 hy3 hy4 hz0 hz1 hz2 hz3 hz4
        have HB1 := Aside0.mk (below_alloc (below_alloc (Below.refl wr.heap.size wr) (.cells (cs9 x A2 c2) 69)) (.cells (cs9 y B2 d2) 69))
        have HB2 := Aside0.mk (HBW.out.trans (HB1.out.mono HBW.out.size))
        refine (same1_calls x y A2 c2 B2 d2 _ (Kd.C_below HXC.out HB2.out) HXL.out (Kd.C_below HYC.out HB2.out) HYL.out).mono ?_
        rintro e w3 ⟨rfl, hb⟩
        have HB3 := Aside0.mk (HB2.out.trans (hb.mono HB2.out.size))
        clear hb
        by_cases he : x = y
        · have e1 : decide (x = y) = true := decide_eq_true he
          rw [e1]
          have HT2 := Aside0.mk (take_same HT.out hlt hly (by rw [← HX.out, ← HY.out]; exact he))
          have hmx := HMX.out
          clear he e1
          go_wp2
          go_roundw
          case rel => exact ⟨k + 1, by go_num, by omega, HT2.out, HB3.out⟩
          case measure => simp [intOf]; omega
        · have e1 : decide (x = y) = false := decide_eq_false he
          rw [e1]
          have HN := Aside0.mk (show decide (xs = ys) = false from decide_eq_false (fun e => he (by rw [HX.out, HY.out]; simp only [e])))
          clear he e1
          go_wp2
          go_ret
          exact ⟨by rw [HN.out]; rfl, HB3.out⟩
      · have q0 : decide ((k : Int) < (xs.length : Int)) = false := decide_eq_false (by omega)
        have hkn : k = xs.length := by omega
        have HN := Aside0.mk (show decide (xs = ys) = true from decide_eq_true (by
          have := HT.out
          rw [hkn, List.take_length] at this
          rw [this, HL.out, List.take_length]))
        clear hkn
        go_wp2
        go_ret
        exact ⟨by rw [HN.out]; rfl, HBW.out⟩
  · have p0 : ((xs.length : Int) != (ys.length : Int)) = true := by simp; omega
    have HN := Aside0.mk (show decide (xs = ys) = false from decide_eq_false (fun e => hl (by rw [e])))
    clear hl
    go_enter Try.func51, Try.ntmps51
    go_wp2
    go_ret
    exact ⟨by rw [HN.out]; rfl, Below.refl _ _⟩
set_option maxHeartbeats 4000000 in
set_option maxRecDepth 1000000 in
theorem same_calls (xs ys : List S69) (A : Option Addr) (c : Nat) (B : Option Addr) (d : Nat) (w : World) (hA : Kd.C k69 w A xs.length xs) (hc : xs.length ≤ c) (hB : Kd.C k69 w B ys.length ys) (hd : ys.length ≤ d) :
    Calls Try.prog 31 #[.slice A xs.length c, .slice B ys.length d] w fun e w' => e = .returned (.bool (decide (xs = ys))) ∧ Below w.heap.size w w' := by
  have HA := Aside0.mk hA
  have HB := Aside0.mk hB
  have HC := Aside0.mk hc
  have HD := Aside0.mk hd
  clear hA hB hc hd
  go_enter Try.func31, Try.ntmps31
  go_wp2_with fail
  refine (eqf51 xs ys A c B d _ HA.out HC.out HB.out HD.out).mono ?_
  rintro e w3 ⟨rfl, hb⟩
  go_wp2
  go_ret
  exact ⟨rfl, hb⟩
end Go.Proofs.Ytgfokmgbphhpjaa.StS
