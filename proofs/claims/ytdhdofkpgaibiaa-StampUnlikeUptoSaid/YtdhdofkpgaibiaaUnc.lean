/- What is told: the same or not; as an argument. -/
import Derived.Test.YtdhdofkpgaibiaaPStampTellsx0
import Derived.WalkSpells
import Derived.SizedLaws
import Derived.Lib.SmallJoins
import Derived.Deep.Strs
import Derived.Test.YtdhdofkpgaibiaaRows
namespace Go.Proofs.Ytdhdofkpgaibiaa.StS
open Go.RowKit Go.Proofs.YtdhdofkpgaibiaaW.PrintWords Go.Proofs.YtdhdofkpgaibiaaW.PrintLast Go.Proofs.YtdhdofkpgaibiaaW.PrintMore Go.Proofs.Ytdhdofkpgaibiaa.PStampTells
open Classical
set_option linter.unusedVariables false
set_option linter.unusedSimpArgs false
abbrev ex (f0 f1 : Int) (A : Option Addr) (n c : Nat) : Value := .agg #[.int .i64 f0, .int .i64 f1, .slice A n c]
/-- What 'alike' answers of an expression whose parts are xs. -/
def AlikeP (xs : List S84) : Prop := ∀ (f0 f1 : Int) (A : Option Addr) (c : Nat) (g0 g1 : Int) (ys : List S84) (B : Option Addr) (d : Nat) (w : World), Kd.C k84 w A xs.length xs → xs.length ≤ c → Kd.C k84 w B ys.length ys → ys.length ≤ d →
  Calls Try.prog 70 #[ex f0 f1 A xs.length c, ex g0 g1 B ys.length d] w fun e w' => e = .returned (.bool (decide (f0 = g0 ∧ f1 = g1 ∧ xs = ys))) ∧ Below w.heap.size w w'
theorem rd_get {xs : List S84} {k : Nat} (h : k < xs.length) : rd_T84 xs k = xs[k] := by
  unfold rd_T84
  rw [Int.toNat_natCast, List.getD_eq_getElem?_getD, List.getElem?_eq_getElem h]; rfl
theorem s67_eq (a b : S84) : a = b ↔ a.f0 = b.f0 ∧ a.f1 = b.f1 ∧ a.f2 = b.f2 := by
  cases a; cases b
  simp
theorem take_same {α : Type} {xs ys : List α} {k : Nat} (h : xs.take k = ys.take k) (h1 : k < xs.length) (h2 : k < ys.length) (e : xs[k] = ys[k]) : xs.take (k + 1) = ys.take (k + 1) := by
  rw [List.take_succ_eq_append_getElem h1, List.take_succ_eq_append_getElem h2, h, e]
set_option maxHeartbeats 4000000 in
set_option maxRecDepth 1000000 in
theorem eqf69 (xs ys : List S84) (IH : ∀ x ∈ xs, AlikeP x.f2) (A : Option Addr) (c : Nat) (B : Option Addr) (d : Nat) (w : World) (hA : Kd.C k84 w A xs.length xs) (hc : xs.length ≤ c) (hB : Kd.C k84 w B ys.length ys) (hd : ys.length ≤ d) :
    Calls Try.prog 97 #[.slice A xs.length c, .slice B ys.length d, .func (.func 70) #[] #[]] w fun e w' => e = .returned (.bool (decide (xs = ys))) ∧ Below w.heap.size w w' := by
  have HA := Aside0.mk hA
  have HB := Aside0.mk hB
  have HIH := Aside0.mk IH
  have HMX := Aside0.mk hA.2.1
  clear hA hB IH hc hd
  by_cases hl : xs.length = ys.length
  · have p0 : ((xs.length : Int) != (ys.length : Int)) = false := by simp [hl]
    have HL := Aside0.mk hl
    clear hl
    go_enter Try.func97, Try.ntmps97
    go_wp2
    go_loopw [17] (fun i wr => ∃ k : Nat, i = .int .i64 k ∧ k ≤ xs.length ∧ xs.take k = ys.take k ∧ Below w.heap.size w wr) (fun i _ => xs.length - (intOf i).toNat)
    case atStart => exact ⟨0, rfl, Nat.zero_le _, rfl, Below.refl _ _⟩
    case round =>
      obtain ⟨k, rfl, hk, ht, hb⟩ := hrel
      have HT := Aside0.mk ht
      have HBW := Aside0.mk hb
      clear ht hb
      by_cases hlt : k < xs.length
      · have hly : k < ys.length := by have := HL.out; omega
        have q0 := eq_true (show (k : Int) < (xs.length : Int) by omega)
        obtain ⟨ad, A2, c2, ead, hx0, hx1, hx2, hxl, hxC⟩ := at_T84 HA.out k (Int.natCast_nonneg k) (by omega)
        obtain ⟨bd, B2, d2, ebd, hy0, hy1, hy2, hyl, hyC⟩ := at_T84 HB.out k (Int.natCast_nonneg k) (by omega)
        subst ead ebd
        simp only [Int.toNat_natCast] at hx0 hx1 hx2 hy0 hy1 hy2
        replace hx0 := pw_cell_below HBW.out hx0
        replace hx1 := pw_cell_below HBW.out hx1
        replace hx2 := pw_cell_below HBW.out hx2
        replace hy0 := pw_cell_below HBW.out hy0
        replace hy1 := pw_cell_below HBW.out hy1
        replace hy2 := pw_cell_below HBW.out hy2
        have HX := Aside0.mk (rd_get hlt)
        have HY := Aside0.mk (rd_get hly)
        have HP := Aside0.mk (HIH.out (rd_T84 xs k) (by rw [rd_get hlt]; exact List.getElem_mem _))
        obtain ⟨x, hx⟩ : ∃ x, rd_T84 xs k = x := ⟨_, rfl⟩
        obtain ⟨y, hy⟩ : ∃ y, rd_T84 ys k = y := ⟨_, rfl⟩
        rw [hx] at hx0 hx1 hx2 hxl hxC HX HP
        rw [hy] at hy0 hy1 hy2 hyl hyC HY
        have HXC := Aside0.mk hxC
        have HYC := Aside0.mk hyC
        have HXL := Aside0.mk hxl
        have HYL := Aside0.mk hyl
        clear hxC hyC hxl hyl hx hy
        have hz0 := (World.cell?_alloc_lt wr (.cells #[.int .i64 x.f0, .int .i64 x.f1, .slice A2 x.f2.length c2] 84) _ (World.block_lt_of_cell? _ _ hy0)).trans hy0
        have hz1 := (World.cell?_alloc_lt wr (.cells #[.int .i64 x.f0, .int .i64 x.f1, .slice A2 x.f2.length c2] 84) _ (World.block_lt_of_cell? _ _ hy1)).trans hy1
        have hz2 := (World.cell?_alloc_lt wr (.cells #[.int .i64 x.f0, .int .i64 x.f1, .slice A2 x.f2.length c2] 84) _ (World.block_lt_of_cell? _ _ hy2)).trans hy2
        go_wp2_with fail
        clear hx0 hx1 hx2 hy0 hy1 hy2 hz0 hz1 hz2
        have HB1 := Aside0.mk (below_alloc (below_alloc (Below.refl wr.heap.size wr) (.cells #[.int .i64 x.f0, .int .i64 x.f1, .slice A2 x.f2.length c2] 84)) (.cells #[.int .i64 y.f0, .int .i64 y.f1, .slice B2 y.f2.length d2] 84))
        have HB2 := Aside0.mk (HBW.out.trans (HB1.out.mono HBW.out.size))
        refine (HP.out x.f0 x.f1 A2 c2 y.f0 y.f1 y.f2 B2 d2 _ (Kd.C_below HXC.out HB2.out) HXL.out (Kd.C_below HYC.out HB2.out) HYL.out).mono ?_
        rintro e w3 ⟨rfl, hb⟩
        have HB3 := Aside0.mk (HB2.out.trans (hb.mono HB2.out.size))
        clear hb
        by_cases he : x.f0 = y.f0 ∧ x.f1 = y.f1 ∧ x.f2 = y.f2
        · have e1 : decide (x.f0 = y.f0 ∧ x.f1 = y.f1 ∧ x.f2 = y.f2) = true := decide_eq_true he
          rw [e1]
          have HT2 := Aside0.mk (take_same HT.out hlt hly (by rw [← HX.out, ← HY.out]; exact (s67_eq x y).2 he))
          have hmx := HMX.out
          clear he e1
          go_wp2
          go_roundw
          case rel => exact ⟨k + 1, by go_num, by omega, HT2.out, HB3.out⟩
          case measure => simp [intOf]; omega
        · have e1 : decide (x.f0 = y.f0 ∧ x.f1 = y.f1 ∧ x.f2 = y.f2) = false := decide_eq_false he
          rw [e1]
          have HN := Aside0.mk (show decide (xs = ys) = false from decide_eq_false (fun e => he ((s67_eq x y).1 (by rw [HX.out, HY.out]; simp only [e]))))
          clear he e1
          go_wp2
          go_ret
          exact ⟨by rw [HN.out]; rfl, HB3.out⟩
      · have q0 : decide ((k : Int) < (xs.length : Int)) = false := decide_eq_false (by omega)
        have hkn : k = xs.length := by omega
        have HN := Aside0.mk (show decide (xs = ys) = true from decide_eq_true (by
          have := HT.out
          rw [hkn, List.take_length] at this
          rw [this, HL.out, List.take_length]))
        clear hkn
        go_wp2
        go_ret
        exact ⟨by rw [HN.out]; rfl, HBW.out⟩
  · have p0 : ((xs.length : Int) != (ys.length : Int)) = true := by simp; omega
    have HN := Aside0.mk (show decide (xs = ys) = false from decide_eq_false (fun e => hl (by rw [e])))
    clear hl
    go_enter Try.func97, Try.ntmps97
    go_wp2
    go_ret
    exact ⟨by rw [HN.out]; rfl, Below.refl _ _⟩
set_option maxHeartbeats 4000000 in
set_option maxRecDepth 1000000 in
theorem alike_of (xs : List S84) (IH : ∀ x ∈ xs, AlikeP x.f2) : AlikeP xs := by
  intro f0 f1 A c g0 g1 ys B d w hA hc hB hd
  have hb1 := below_alloc (below_alloc (Below.refl w.heap.size w) (.cells #[.int .i64 f0, .int .i64 f1, .slice A xs.length c] 84)) (.cells #[.int .i64 g0, .int .i64 g1, .slice B ys.length d] 84)
  have HA := Aside0.mk (Kd.C_below hA hb1)
  have HB := Aside0.mk (Kd.C_below hB hb1)
  have HC := Aside0.mk hc
  have HD := Aside0.mk hd
  have HIH := Aside0.mk IH
  have HB1 := Aside0.mk hb1
  clear hA hB hc hd IH hb1
  by_cases h0 : f0 = g0
  · by_cases h1 : f1 = g1
    · have e0 : (f0 == g0) = true := by simp [h0]
      have e1 : (f1 == g1) = true := by simp [h1]
      have HE := Aside0.mk (show decide (f0 = g0 ∧ f1 = g1 ∧ xs = ys) = decide (xs = ys) from by simp [h0, h1])
      clear h0 h1
      go_enter Try.func70, Try.ntmps70
      go_wp2_with fail
      refine (eqf69 xs ys HIH.out A c B d _ HA.out HC.out HB.out HD.out).mono ?_
      rintro e w3 ⟨rfl, hb⟩
      have HB3 := Aside0.mk (HB1.out.trans (hb.mono HB1.out.size))
      clear hb
      obtain ⟨r, hr⟩ : ∃ r, decide (xs = ys) = r := ⟨_, rfl⟩
      rw [hr] at HE ⊢
      clear hr
      go_wp2
      go_ret
      exact ⟨by rw [HE.out]; rfl, HB3.out⟩
    · have e0 : (f0 == g0) = true := by simp [h0]
      have e1 : (f1 == g1) = false := by simp [h1]
      have HE := Aside0.mk (show decide (f0 = g0 ∧ f1 = g1 ∧ xs = ys) = false from by simp [h1])
      clear h0 h1
      go_enter Try.func70, Try.ntmps70
      go_wp2
      go_ret
      exact ⟨by rw [HE.out]; rfl, HB1.out⟩
  · have e0 : (f0 == g0) = false := by simp [h0]
    have HE := Aside0.mk (show decide (f0 = g0 ∧ f1 = g1 ∧ xs = ys) = false from by simp [h0])
    clear h0
    go_enter Try.func70, Try.ntmps70
    go_wp2
    go_ret
    exact ⟨by rw [HE.out]; rfl, HB1.out⟩
theorem alike_all (n : Nat) : ∀ xs : List S84, SizeOf.sizeOf xs ≤ n → AlikeP xs := by
  induction n with
  | zero => intro xs h; cases xs <;> simp at h
  | succ n ih =>
    intro xs h
    refine alike_of xs (fun x hx => ih x.f2 ?_)
    have h1 := List.sizeOf_lt_of_mem hx
    have h2 : SizeOf.sizeOf x.f2 < SizeOf.sizeOf x := by cases x; simp; omega
    omega
theorem alike_calls (xs : List S84) : AlikeP xs := alike_all _ xs (Nat.le_refl _)
abbrev cs9 (x : S89) (A : Option Addr) (c : Nat) : Array Value := #[.string x.f0, .bool x.f1, .int .i64 x.f2.f0, .int .i64 x.f2.f1, .slice A x.f2.f2.length c]
theorem rd_get9 {xs : List S89} {k : Nat} (h : k < xs.length) : rd_T89 xs k = xs[k] := by
  unfold rd_T89
  rw [Int.toNat_natCast, List.getD_eq_getElem?_getD, List.getElem?_eq_getElem h]; rfl
theorem s69_eq (a b : S89) : a = b ↔ a.f0 = b.f0 ∧ a.f1 = b.f1 ∧ a.f2.f0 = b.f2.f0 ∧ a.f2.f1 = b.f2.f1 ∧ a.f2.f2 = b.f2.f2 := by
  cases a; cases b
  simp [s67_eq]
set_option maxHeartbeats 4000000 in
set_option maxRecDepth 1000000 in
theorem same1_calls (x y : S89) (A : Option Addr) (c : Nat) (B : Option Addr) (d : Nat) (w : World) (hA : Kd.C k84 w A x.f2.f2.length x.f2.f2) (hc : x.f2.f2.length ≤ c) (hB : Kd.C k84 w B y.f2.f2.length y.f2.f2) (hd : y.f2.f2.length ≤ d) :
    Calls Try.prog 69 #[.agg (cs9 x A c), .agg (cs9 y B d)] w fun e w' => e = .returned (.bool (decide (x = y))) ∧ Below w.heap.size w w' := by
  have hb1 := below_alloc (below_alloc (Below.refl w.heap.size w) (.cells (cs9 x A c) 89)) (.cells (cs9 y B d) 89)
  have HA := Aside0.mk (Kd.C_below hA hb1)
  have HB := Aside0.mk (Kd.C_below hB hb1)
  have HC := Aside0.mk hc
  have HD := Aside0.mk hd
  have HB1 := Aside0.mk hb1
  clear hA hB hc hd hb1
  by_cases h0 : x.f0 = y.f0
  · have e0' : (x.f0.toList == y.f0.toList) = true := by simp [h0]
    by_cases h1 : x.f1 = y.f1
    · have e1 : (x.f1 == y.f1) = true := by simp [h1]
      have HE := Aside0.mk (show decide (x = y) = decide (x.f2.f0 = y.f2.f0 ∧ x.f2.f1 = y.f2.f1 ∧ x.f2.f2 = y.f2.f2) from by rw [decide_eq_decide, s69_eq]; simp [h0, h1])
      clear h0 h1
      go_enter Try.func69, Try.ntmps69
      go_wp2_with fail
      refine (alike_calls x.f2.f2 x.f2.f0 x.f2.f1 A c y.f2.f0 y.f2.f1 y.f2.f2 B d _ HA.out HC.out HB.out HD.out).mono ?_
      rintro e w3 ⟨rfl, hb⟩
      have HB3 := Aside0.mk (HB1.out.trans (hb.mono HB1.out.size))
      clear hb
      obtain ⟨r, hr⟩ : ∃ r, decide (x.f2.f0 = y.f2.f0 ∧ x.f2.f1 = y.f2.f1 ∧ x.f2.f2 = y.f2.f2) = r := ⟨_, rfl⟩
      rw [hr] at HE ⊢
      clear hr
      go_wp2
      go_ret
      exact ⟨by rw [HE.out]; rfl, HB3.out⟩
    · have e1 : (x.f1 == y.f1) = false := by simp [h1]
      have HE := Aside0.mk (show decide (x = y) = false from decide_eq_false (fun e => h1 ((s69_eq x y).1 e).2.1))
      clear h0 h1
      go_enter Try.func69, Try.ntmps69
      go_wp2
      go_ret
      exact ⟨by rw [HE.out]; rfl, HB1.out⟩
  · have hdata : x.f0.toList ≠ y.f0.toList := fun e => h0 (by
      rw [ByteArray.toList_eq, ByteArray.toList_eq] at e
      exact ByteArray.ext (Array.toList_inj.1 e))
    have e0' : (x.f0.toList == y.f0.toList) = false := by simp [hdata]
    have HE := Aside0.mk (show decide (x = y) = false from decide_eq_false (fun e => h0 ((s69_eq x y).1 e).1))
    clear h0 hdata
    go_enter Try.func69, Try.ntmps69
    go_wp2
    go_ret
    exact ⟨by rw [HE.out]; rfl, HB1.out⟩
set_option maxHeartbeats 4000000 in
set_option maxRecDepth 1000000 in
theorem eqf51 (xs ys : List S89) (A : Option Addr) (c : Nat) (B : Option Addr) (d : Nat) (w : World) (hA : Kd.C k89 w A xs.length xs) (hc : xs.length ≤ c) (hB : Kd.C k89 w B ys.length ys) (hd : ys.length ≤ d) :
    Calls Try.prog 68 #[.slice A xs.length c, .slice B ys.length d, .func (.func 69) #[] #[]] w fun e w' => e = .returned (.bool (decide (xs = ys))) ∧ Below w.heap.size w w' := by
  have HA := Aside0.mk hA
  have HB := Aside0.mk hB
  have HMX := Aside0.mk hA.2.1
  clear hA hB hc hd
  by_cases hl : xs.length = ys.length
  · have p0 : ((xs.length : Int) != (ys.length : Int)) = false := by simp [hl]
    have HL := Aside0.mk hl
    clear hl
    go_enter Try.func68, Try.ntmps68
    go_wp2
    go_loopw [17] (fun i wr => ∃ k : Nat, i = .int .i64 k ∧ k ≤ xs.length ∧ xs.take k = ys.take k ∧ Below w.heap.size w wr) (fun i _ => xs.length - (intOf i).toNat)
    case atStart => exact ⟨0, rfl, Nat.zero_le _, rfl, Below.refl _ _⟩
    case round =>
      obtain ⟨k, rfl, hk, ht, hb⟩ := hrel
      have HT := Aside0.mk ht
      have HBW := Aside0.mk hb
      clear ht hb
      by_cases hlt : k < xs.length
      · have hly : k < ys.length := by have := HL.out; omega
        have q0 := eq_true (show (k : Int) < (xs.length : Int) by omega)
        obtain ⟨ad, A2, c2, ead, hx0, hx1, hx2, hx3, hx4, hxl, hxC⟩ := at_T89 HA.out k (Int.natCast_nonneg k) (by omega)
        obtain ⟨bd, B2, d2, ebd, hy0, hy1, hy2, hy3, hy4, hyl, hyC⟩ := at_T89 HB.out k (Int.natCast_nonneg k) (by omega)
        subst ead ebd
        simp only [Int.toNat_natCast] at hx0 hx1 hx2 hx3 hx4 hy0 hy1 hy2 hy3 hy4
        replace hx0 := pw_cell_below HBW.out hx0
        replace hx1 := pw_cell_below HBW.out hx1
        replace hx2 := pw_cell_below HBW.out hx2
        replace hx3 := pw_cell_below HBW.out hx3
        replace hx4 := pw_cell_below HBW.out hx4
        replace hy0 := pw_cell_below HBW.out hy0
        replace hy1 := pw_cell_below HBW.out hy1
        replace hy2 := pw_cell_below HBW.out hy2
        replace hy3 := pw_cell_below HBW.out hy3
        replace hy4 := pw_cell_below HBW.out hy4
        have HX := Aside0.mk (rd_get9 hlt)
        have HY := Aside0.mk (rd_get9 hly)
        obtain ⟨x, hx⟩ : ∃ x, rd_T89 xs k = x := ⟨_, rfl⟩
        obtain ⟨y, hy⟩ : ∃ y, rd_T89 ys k = y := ⟨_, rfl⟩
        rw [hx] at hx0 hx1 hx2 hx3 hx4 hxl hxC HX
        rw [hy] at hy0 hy1 hy2 hy3 hy4 hyl hyC HY
        have HXC := Aside0.mk hxC
        have HYC := Aside0.mk hyC
        have HXL := Aside0.mk hxl
        have HYL := Aside0.mk hyl
        clear hxC hyC hxl hyl hx hy
        have hz0 := (World.cell?_alloc_lt wr (.cells (cs9 x A2 c2) 89) _ (World.block_lt_of_cell? _ _ hy0)).trans hy0
        have hz1 := (World.cell?_alloc_lt wr (.cells (cs9 x A2 c2) 89) _ (World.block_lt_of_cell? _ _ hy1)).trans hy1
        have hz2 := (World.cell?_alloc_lt wr (.cells (cs9 x A2 c2) 89) _ (World.block_lt_of_cell? _ _ hy2)).trans hy2
        have hz3 := (World.cell?_alloc_lt wr (.cells (cs9 x A2 c2) 89) _ (World.block_lt_of_cell? _ _ hy3)).trans hy3
        have hz4 := (World.cell?_alloc_lt wr (.cells (cs9 x A2 c2) 89) _ (World.block_lt_of_cell? _ _ hy4)).trans hy4
        go_wp2_with fail
        clear hx0 hx1 hx2 hx3 hx4 hy0 hy1 hy2 hy3 hy4 hz0 hz1 hz2 hz3 hz4
        have HB1 := Aside0.mk (below_alloc (below_alloc (Below.refl wr.heap.size wr) (.cells (cs9 x A2 c2) 89)) (.cells (cs9 y B2 d2) 89))
        have HB2 := Aside0.mk (HBW.out.trans (HB1.out.mono HBW.out.size))
        refine (same1_calls x y A2 c2 B2 d2 _ (Kd.C_below HXC.out HB2.out) HXL.out (Kd.C_below HYC.out HB2.out) HYL.out).mono ?_
        rintro e w3 ⟨rfl, hb⟩
        have HB3 := Aside0.mk (HB2.out.trans (hb.mono HB2.out.size))
        clear hb
        by_cases he : x = y
        · have e1 : decide (x = y) = true := decide_eq_true he
          rw [e1]
          have HT2 := Aside0.mk (take_same HT.out hlt hly (by rw [← HX.out, ← HY.out]; exact he))
          have hmx := HMX.out
          clear he e1
          go_wp2
          go_roundw
          case rel => exact ⟨k + 1, by go_num, by omega, HT2.out, HB3.out⟩
          case measure => simp [intOf]; omega
        · have e1 : decide (x = y) = false := decide_eq_false he
          rw [e1]
          have HN := Aside0.mk (show decide (xs = ys) = false from decide_eq_false (fun e => he (by rw [HX.out, HY.out]; simp only [e])))
          clear he e1
          go_wp2
          go_ret
          exact ⟨by rw [HN.out]; rfl, HB3.out⟩
      · have q0 : decide ((k : Int) < (xs.length : Int)) = false := decide_eq_false (by omega)
        have hkn : k = xs.length := by omega
        have HN := Aside0.mk (show decide (xs = ys) = true from decide_eq_true (by
          have := HT.out
          rw [hkn, List.take_length] at this
          rw [this, HL.out, List.take_length]))
        clear hkn
        go_wp2
        go_ret
        exact ⟨by rw [HN.out]; rfl, HBW.out⟩
  · have p0 : ((xs.length : Int) != (ys.length : Int)) = true := by simp; omega
    have HN := Aside0.mk (show decide (xs = ys) = false from decide_eq_false (fun e => hl (by rw [e])))
    clear hl
    go_enter Try.func68, Try.ntmps68
    go_wp2
    go_ret
    exact ⟨by rw [HN.out]; rfl, Below.refl _ _⟩
set_option maxHeartbeats 4000000 in
set_option maxRecDepth 1000000 in
theorem same_calls (xs ys : List S89) (A : Option Addr) (c : Nat) (B : Option Addr) (d : Nat) (w : World) (hA : Kd.C k89 w A xs.length xs) (hc : xs.length ≤ c) (hB : Kd.C k89 w B ys.length ys) (hd : ys.length ≤ d) :
    Calls Try.prog 32 #[.slice A xs.length c, .slice B ys.length d] w fun e w' => e = .returned (.bool (decide (xs = ys))) ∧ Below w.heap.size w w' := by
  have HA := Aside0.mk hA
  have HB := Aside0.mk hB
  have HC := Aside0.mk hc
  have HD := Aside0.mk hd
  clear hA hB hc hd
  go_enter Try.func32, Try.ntmps32
  go_wp2_with fail
  refine (eqf51 xs ys A c B d _ HA.out HC.out HB.out HD.out).mono ?_
  rintro e w3 ⟨rfl, hb⟩
  go_wp2
  go_ret
  exact ⟨rfl, hb⟩
end Go.Proofs.Ytdhdofkpgaibiaa.StS
namespace Go.Proofs.Ytdhdofkpgaibiaa.StS
open Go.ChangeShapes Go.WideShapes Go.ChangeAt Go.RowKit Go.Joins Go.Deep
open Go.Proofs.YtdhdofkpgaibiaaW.PrintWords Go.Proofs.Ytdhdofkpgaibiaa.PStampTells
set_option linter.unusedVariables false
set_option linter.unusedSimpArgs false
/-- Every list in a tree is short enough to be made anew. -/
def Bd : Nat → List S84 → Prop
  | 0, _ => False
  | n + 1, xs => xs.length < 3518437208883 ∧ ∀ x ∈ xs, Bd n x.f2
theorem all_fuel {α : Type} {P : α → Nat → Prop} (hP : ∀ x k k', k ≤ k' → P x k → P x k') (xs : List α) (h : ∀ x ∈ xs, ∃ K, P x K) : ∃ K, ∀ x ∈ xs, P x K := by
  induction xs with
  | nil => exact ⟨0, by simp⟩
  | cons x xs ih =>
    obtain ⟨K1, h1⟩ := h x List.mem_cons_self
    obtain ⟨K2, h2⟩ := ih (fun y hy => h y (List.mem_cons_of_mem _ hy))
    refine ⟨max K1 K2, fun y hy => ?_⟩
    rcases List.mem_cons.1 hy with rfl | hy
    · exact hP _ _ _ (Nat.le_max_left _ _) h1
    · exact hP _ _ _ (Nat.le_max_right _ _) (h2 y hy)
theorem Bd_mono (n : Nat) : ∀ m, n ≤ m → ∀ xs, Bd n xs → Bd m xs := by
  induction n with
  | zero => intro m _ xs h; exact h.elim
  | succ n ih =>
    intro m hm xs h
    obtain ⟨m, rfl⟩ : ∃ j, m = j + 1 := ⟨m - 1, by omega⟩
    exact ⟨h.1, fun x hx => ih m (by omega) x.f2 (h.2 x hx)⟩
theorem pick_all {α : Type} {P : Nat → α → Prop} (n : Nat) (h : ∀ i, i < n → ∃ x, P i x) : ∃ l : List α, l.length = n ∧ ∀ i x, l[i]? = some x → P i x := by
  induction n with
  | zero => exact ⟨[], rfl, by simp⟩
  | succ n ih =>
    obtain ⟨l, hl, hp⟩ := ih (fun i hi => h i (by omega))
    obtain ⟨x, hx⟩ := h n (by omega)
    refine ⟨l ++ [x], by simp [hl], fun i y hy => ?_⟩
    rcases Nat.lt_or_ge i l.length with h1 | h1
    · rw [List.getElem?_append_left h1] at hy
      exact hp i y hy
    · rw [List.getElem?_append_right h1] at hy
      have : i - l.length = 0 := by
        rcases Nat.eq_zero_or_pos (i - l.length) with h2 | h2
        · exact h2
        · rw [List.getElem?_eq_none (by simp; omega)] at hy; cases hy
      rw [this] at hy
      obtain rfl : x = y := by simpa using hy
      rw [show i = n from by omega]
      exact hx
section
variable {H : Type} {enc : TypeId × Value → H} {W : World} {base : Nat} {spare : Nat → Bool} {held : Bool}
theorem weights_elem {P : Program} {e : TypeId} {D : DataW H} {l : List (DataW H)} (h : D ∈ l) {m : Nat} (hm : m ∈ D.weights P e) : m ∈ DataW.weightsAll P e l := by
  induction l with
  | nil => cases h
  | cons d l ih =>
    simp only [DataW.weightsAll, List.mem_append]
    rcases List.mem_cons.1 h with rfl | h
    · exact Or.inl hm
    · exact Or.inr (ih h)
theorem bytes67 : Try.prog.bytesOf 84 = 40 := by kernel_rfl
theorem bytes69 : Try.prog.bytesOf 89 = 64 := by kernel_rfl
theorem cells67 : Try.prog.cellsOf 84 = 3 := by kernel_rfl
theorem cells69 : Try.prog.cellsOf 89 = 5 := by kernel_rfl
theorem cells3 : Try.prog.cellsOf 3 = 1 := by kernel_rfl
theorem cells65 : Try.prog.cellsOf 82 = 1 := by kernel_rfl
theorem cells9 : Try.prog.cellsOf 9 = 1 := by kernel_rfl
theorem cells4 : Try.prog.cellsOf 4 = 1 := by kernel_rfl
theorem list3 {α : Type} {l : List α} (h : l.length = 3) : ∃ a b c, l = [a, b, c] := by
  match l, h with
  | [a, b, c], _ => exact ⟨a, b, c, rfl⟩
theorem reach_le {n : Nat} (h : n * 40 ≤ reachBytes) : n < 3518437208883 := by
  unfold reachBytes at h; omega
theorem reach_le9 {n : Nat} (h : n * 64 ≤ reachBytes) : n < 2199023255552 := by
  unfold reachBytes at h; omega
/-- A slice of expressions. -/
theorem exprs_open (hsp : ∀ k, spare k = true) (N : Nat) : ∀ (fuel : Nat) (c : Value) (y : DataW H × List MemPlace), SizeOf.sizeOf y.1 < N → DataW.trod enc Try.prog W base spare held fuel 82 [c] = some y → (∀ m ∈ y.1.weights Try.prog 82, m ≤ reachBytes) →
    ∃ A l c', c = .slice A l.length c' ∧ Kd.C k84 W A l.length l ∧ l.length ≤ c' ∧ ∃ n, Bd n l := by
  induction N with
  | zero => intro fuel c y h; exact absurd h (Nat.not_lt_zero _)
  | succ N ih =>
    intro fuel c y hN hf hw
    rcases open_slice Try.underlying82 hf with ⟨hcs, _⟩ | ⟨a, len, cap, m, n, D, Pl, hcs, _, hlc, hcm, hm, hx, hel⟩
    · simp only [List.cons.injEq, and_true] at hcs
      exact ⟨none, [], 0, by rw [hcs]; rfl, ⟨rfl, by simp, by simp⟩, Nat.le_refl _, 1, by simp [Bd]⟩
    · simp only [List.cons.injEq, and_true] at hcs
      rw [hsp] at hm
      simp only [if_true] at hm
      subst hm
      subst hx
      have hlb : len < 3518437208883 := by
        have := hw ((((List.range len).map D).length + ((List.range (m - len)).map fun j => D (len + j)).length) * Try.prog.bytesOf 84) (by simp [DataW.weights, Try.underlying82])
        rw [bytes67, List.length_map, List.length_map, List.length_range, List.length_range, show len + (m - len) = m from by omega] at this
        exact Nat.lt_of_le_of_lt hlc (reach_le this)
      have hone : ∀ i, i < len → ∃ x : S84, (∃ cs, cs.length = 3 ∧ k84.K W x cs ∧ ∀ j u, cs[j]? = some u → W.cell? (a.add (i * 3 + j)) = some u) ∧ ∃ n, Bd n x.f2 := by
        intro i hi
        obtain ⟨cs', hc', ht⟩ := hel i (by omega)
        rw [cells67] at hc'
        obtain ⟨_, hl3, hcell⟩ := World.cells?_some hc'
        obtain ⟨y0, y1, y2, n2, hx, _, h0, h1, h2⟩ := trod_struct3 Try.underlying84 ht
        obtain ⟨v0, v1, v2, rfl⟩ := list3 hl3
        simp only [cells3, cells65, List.drop_succ_cons, List.drop_zero, List.take_succ_cons, List.take_zero] at h0 h1 h2
        obtain ⟨x0, e0, _, _⟩ := DataW.trod_int Try.underlying3 h0
        obtain ⟨x1, e1, _, _⟩ := DataW.trod_int Try.underlying3 h1
        simp only [List.cons.injEq, and_true] at e0 e1
        subst e0 e1
        have hD : D i = .agg [y0.1, y1.1, y2.1] := (Prod.mk.inj hx).1
        have hmem : D i ∈ (List.range len).map D := List.mem_map.2 ⟨i, List.mem_range.2 hi, rfl⟩
        obtain ⟨A2, l2, c2, rfl, hC2, hl2, hB2⟩ := ih n2 v2 y2 (by
          have s1 := List.sizeOf_lt_of_mem hmem
          have s2 : SizeOf.sizeOf y2.1 < SizeOf.sizeOf (D i) := by
            rw [hD]
            have := List.sizeOf_lt_of_mem (show y2.1 ∈ [y0.1, y1.1, y2.1] by simp)
            simp only [DataW.agg.sizeOf_spec]
            omega
          simp only [DataW.slice.sizeOf_spec] at hN
          omega) h2 (fun m' hm' => by
            refine hw m' ?_
            simp only [DataW.weights, Try.underlying82, List.mem_cons, List.mem_append]
            refine Or.inr (Or.inl (weights_elem hmem ?_))
            rw [hD]
            simp [DataW.weights, Try.underlying84, DataW.weightsEach, hm'])
        refine ⟨⟨x0, x1, l2⟩, ⟨_, rfl, k84_mk W ⟨x0, x1, l2⟩ hl2 hC2, fun j u hu => ?_⟩, hB2⟩
        have hj : j < 3 := (List.getElem?_eq_some_iff.1 hu).1
        rw [← hu, ← hcell j hj, Addr.add_add]
      obtain ⟨l, hl, hp⟩ := pick_all len hone
      obtain ⟨K, hK⟩ := all_fuel (P := fun (x : S84) K => Bd K x.f2) (fun x k k' hk h => Bd_mono k k' hk x.f2 h) l (fun x hx => by
        obtain ⟨i, hi⟩ := List.mem_iff_getElem?.1 hx
        exact (hp i x hi).2)
      subst hl
      exact ⟨some a, l, m, hcs, ⟨rfl, by omega, fun _ => ⟨a, rfl, fun j p hj => (hp j p hj).1⟩⟩, hlc, K + 1, hlb, hK⟩
theorem list5 {α : Type} {l : List α} (h : l.length = 5) : ∃ a b c d e, l = [a, b, c, d, e] := by
  match l, h with
  | [a, b, c, d, e], _ => exact ⟨a, b, c, d, e, rfl⟩
end
end Go.Proofs.Ytdhdofkpgaibiaa.StS
namespace Go.Proofs.Ytdhdofkpgaibiaa.StS
open Go.ChangeShapes Go.WideShapes Go.ChangeAt Go.RowKit Go.Joins Go.Deep
open Go.Proofs.YtdhdofkpgaibiaaW.PrintWords Go.Proofs.Ytdhdofkpgaibiaa.PStampTells
set_option linter.unusedVariables false
set_option linter.unusedSimpArgs false
theorem bulk_part {H : Type} {d : DataW H} {l : List (DataW H)} (h : d ∈ l) : Rows.uptoBulk d ≤ Rows.uptoBulkAll l := by
  induction l with
  | nil => cases h
  | cons x r ih =>
    simp only [Rows.uptoBulkAll]
    rcases List.mem_cons.1 h with e | e
    · subst e; omega
    · have := ih e; omega
section
variable {H : Type} {enc : TypeId × Value → H} {W : World} {base : Nat} {spare : Nat → Bool} {held : Bool}
/-- A slice of what is told. -/
theorem told_openU (hsp : ∀ k, spare k = true) {fuel : Nat} {c : Value} {y : DataW H × List MemPlace} (N : Nat) (hf : DataW.trod enc Try.prog W base spare held fuel 22 [c] = some y) (hw : ∀ m ∈ y.1.weights Try.prog 22, m ≤ reachBytes) (hb : Rows.uptoBulk y.1 ≤ N) :
    ∃ A l c', c = .slice A l.length c' ∧ Kd.C k89 W A l.length l ∧ l.length ≤ c' ∧ ∀ t ∈ l, t.f0.size ≤ N := by
  rcases open_slice Try.underlying22 hf with ⟨hcs, _⟩ | ⟨a, len, cap, m, n, D, Pl, hcs, _, hlc, hcm, hm, hx, hel⟩
  · simp only [List.cons.injEq, and_true] at hcs
    exact ⟨none, [], 0, by rw [hcs]; rfl, ⟨rfl, by simp, by simp⟩, Nat.le_refl _, by simp⟩
  · simp only [List.cons.injEq, and_true] at hcs
    rw [hsp] at hm
    simp only [if_true] at hm
    subst hm
    subst hx
    have hone : ∀ i, i < len → ∃ x : S89, (∃ cs, cs.length = 5 ∧ k89.K W x cs ∧ ∀ j u, cs[j]? = some u → W.cell? (a.add (i * 5 + j)) = some u) ∧ x.f0.size ≤ N := by
      intro i hi
      obtain ⟨cs', hc', ht⟩ := hel i (by omega)
      rw [cells69] at hc'
      obtain ⟨_, hl3, hcell⟩ := World.cells?_some hc'
      obtain ⟨y0, y1, y2, n2, hx, _, h0, h1, h2⟩ := trod_struct3 Try.underlying89 ht
      obtain ⟨v0, v1, v2, v3, v4, rfl⟩ := list5 hl3
      simp only [cells9, cells4, cells67, List.drop_succ_cons, List.drop_zero, List.take_succ_cons, List.take_zero] at h0 h1 h2
      obtain ⟨x0, e0, hd0, _⟩ := DataW.trod_string Try.underlying9 h0
      obtain ⟨x1, e1, _⟩ := DataW.trod_bool Try.underlying4 h1
      obtain ⟨z0, z1, z2, n3, hz, _, k0, k1, k2⟩ := trod_struct3 Try.underlying84 h2
      simp only [cells3, cells65, List.drop_succ_cons, List.drop_zero, List.take_succ_cons, List.take_zero] at k0 k1 k2
      obtain ⟨x2, e2, _, _⟩ := DataW.trod_int Try.underlying3 k0
      obtain ⟨x3, e3, _, _⟩ := DataW.trod_int Try.underlying3 k1
      simp only [List.cons.injEq, and_true] at e0 e1 e2 e3
      subst e0 e1 e2 e3
      have hD : D i = .agg [y0.1, y1.1, y2.1] := (Prod.mk.inj hx).1
      have hZ : y2.1 = .agg [z0.1, z1.1, z2.1] := by rw [hz]
      have hmem : D i ∈ (List.range len).map D := List.mem_map.2 ⟨i, List.mem_range.2 hi, rfl⟩
      obtain ⟨A2, l2, c2, rfl, hC2, hl2, hB2⟩ := exprs_open hsp _ n3 v4 z2 (Nat.lt_succ_self _) k2 (fun m' hm' => by
          refine hw m' ?_
          simp only [DataW.weights, Try.underlying22, List.mem_cons, List.mem_append]
          refine Or.inr (Or.inl (weights_elem hmem ?_))
          rw [hD, hZ]
          simp [DataW.weights, Try.underlying89, Try.underlying84, DataW.weightsEach, hm'])
      refine ⟨⟨x0, x1, ⟨x2, x3, l2⟩⟩, ⟨_, rfl, k89_mk W ⟨x0, x1, ⟨x2, x3, l2⟩⟩ hl2 hC2, fun j u hu => ?_⟩, ?_⟩
      · have hj : j < 5 := (List.getElem?_eq_some_iff.1 hu).1
        rw [← hu, ← hcell j hj, Addr.add_add]
      · have h1 := bulk_part hmem
        rw [hD] at h1
        have h2 : Rows.uptoBulk y0.1 ≤ N := by
          simp only [Rows.uptoBulk, Rows.uptoBulkAll] at hb h1
          omega
        have h3 : y0.1 = .lit (.string x0.data.toList) := by rw [hd0]
        rw [h3] at h2
        simp only [Rows.uptoBulk] at h2
        have e : x0.data.toList.length = x0.size := by rw [Array.length_toList]; rfl
        show x0.size ≤ N
        omega
    obtain ⟨l, hl, hp⟩ := pick_all len hone
    subst hl
    have hml : maxLen ≤ 9223372036854775807 := by unfold maxLen; omega
    exact ⟨some a, l, m, hcs, ⟨rfl, by omega, fun _ => ⟨a, rfl, fun j p hj => (hp j p hj).1⟩⟩, hlc, fun t ht => by
      obtain ⟨i, hi⟩ := List.mem_iff_getElem?.1 ht
      exact (hp i t hi).2⟩

set_option maxRecDepth 100000 in
theorem two_open (hsp : ∀ k, spare k = true) {r : Reach} {b0 : Nat} {v : Value} {d : DataW H} {p : List MemPlace} (N : Nat) (hv : Value.okWide Try.prog W r b0 60 v) (h : DataW.Trod enc Try.prog W base spare held 60 v d p) (hw : ∀ m ∈ d.weights Try.prog 60, m ≤ reachBytes) (hb : Rows.uptoBulk d ≤ N) :
    ∃ s1 s2 A1 l1 c1 A2 l2 c2, v = .agg #[.string s1, .string s2, .slice A1 l1.length c1, .slice A2 l2.length c2] ∧ Kd.C k89 W A1 l1.length l1 ∧ l1.length ≤ c1 ∧ Kd.C k89 W A2 l2.length l2 ∧ l2.length ≤ c2 ∧ (∀ t ∈ l1, t.f0.size ≤ N) ∧ ∀ t ∈ l2, t.f0.size ≤ N := by
  obtain ⟨cs, rfl, hsz⟩ := okWide_struct Try.underlying60 hv
  obtain ⟨c0, c1, c2, c3, rfl⟩ : ∃ c0 c1 c2 c3, cs = #[c0, c1, c2, c3] := by
    have h4 : cs.size = 4 := hsz.trans (by kernel_rfl)
    obtain ⟨l⟩ := cs
    match l, h4 with
    | [c0, c1, c2, c3], _ => exact ⟨c0, c1, c2, c3, rfl⟩
  obtain ⟨fuel, hf⟩ := h
  obtain ⟨y0, y1, y2, y3, n, hx, _, h0, h1, h2, h3⟩ := trod_struct4 Try.underlying60 hf
  have s9 : Try.prog.cellsOf 9 = 1 := by kernel_rfl
  have s22 : Try.prog.cellsOf 22 = 1 := by kernel_rfl
  simp [Value.cells, s9] at h0
  simp [Value.cells, s9] at h1
  simp [Value.cells, s9, s22] at h2
  simp [Value.cells, s9, s22] at h3
  obtain ⟨x0, e0, hd0, _⟩ := DataW.trod_string Try.underlying9 h0
  obtain ⟨x1, e1, hd1, _⟩ := DataW.trod_string Try.underlying9 h1
  have hd : d = .agg [y0.1, y1.1, y2.1, y3.1] := (Prod.mk.inj hx).1
  have hbb : Rows.uptoBulk y2.1 ≤ N ∧ Rows.uptoBulk y3.1 ≤ N := by
    rw [hd] at hb
    simp only [Rows.uptoBulk, Rows.uptoBulkAll] at hb
    omega
  obtain ⟨A2, l2, k2, e2, hC2, hl2, hz2⟩ := told_openU hsp N h2 (fun m hm => hw m (by rw [hd]; simp [DataW.weights, Try.underlying60, DataW.weightsEach, hm])) hbb.1
  obtain ⟨A3, l3, k3, e3, hC3, hl3, hz3⟩ := told_openU hsp N h3 (fun m hm => hw m (by rw [hd]; simp [DataW.weights, Try.underlying60, DataW.weightsEach, hm])) hbb.2
  simp only [List.cons.injEq, and_true] at e0 e1
  subst e0 e1 e2 e3
  exact ⟨x0, x1, A2, l2, k2, A3, l3, k3, rfl, hC2, hl2, hC3, hl3, hz2, hz3⟩
end
end Go.Proofs.Ytdhdofkpgaibiaa.StS
