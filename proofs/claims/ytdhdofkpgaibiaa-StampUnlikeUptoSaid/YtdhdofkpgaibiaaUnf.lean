/- Proved: for every two texts, and what is told with each, of bulk at most 1048576 together, StampUnlike returns true. -/
import Derived.Test.YtdhdofkpgaibiaaUne
import Derived.Test.YtdhdofkpgaibiaaUnb
import Derived.Test.YtdhdofkpgaibiaaUna
import Derived.Test.YtdhdofkpgaibiaaUnc
import Derived.Deep.QuietTactic
import Derived.BigQuiet
import Derived.Test.YtdhdofkpgaibiaaRows
import Derived.WalkKit
import Derived.ProofKit
import Derived.OpenShut
import Derived.ShutString
import Derived.ChangeOld
import Derived.Below
import Derived.SizedLaws
import Derived.Lib.SmallJoins
import Derived.JoinedCond
import Derived.Deep.CondSized
namespace Go.Proofs.Ytdhdofkpgaibiaa.Ex
open Go.RowKit Go.Proofs.YtdhdofkpgaibiaaW.PrintWords Go.Proofs.YtdhdofkpgaibiaaW.PrintLast Go.Proofs.YtdhdofkpgaibiaaW.PrintMore Go.Proofs.Ytdhdofkpgaibiaa.PStampTells Go.Proofs.Ytdhdofkpgaibiaa.Sev Go.Proofs.Ytdhdofkpgaibiaa.Base Go.Proofs.Ytdhdofkpgaibiaa.St
open Classical
set_option linter.unusedVariables false
set_option linter.unusedSimpArgs false
/-- stamp.Bytes, whatever it is handed. -/
theorem bytes_any (w : World) (s : ByteArray) (A : Option Addr) (c : Nat) (l : List S89) (hC : Kd.C k89 w A l.length l) (hc : l.length ≤ c) (hsz : ∀ t ∈ l, t.f0.size ≤ 1048576) :
    Calls Try.prog 14 #[.string s, .slice A l.length c] w fun e w' => ∃ A n, e = .returned (.tuple #[.slice A n n, .int .i64 (errN s l)]) ∧ Below w.heap.size w w' := by
  by_cases he : errN s l = 0
  · obtain ⟨h1, h2⟩ := errN_ok he
    refine (bytes_calls w s A c l hC hc h1 h2 hsz).mono ?_
    rintro e w' ⟨A1, c1, rfl, _, hb⟩
    exact ⟨A1, _, by rw [he], hb⟩
  · refine (bytes_err w s A c l hC hc he).mono ?_
    rintro e w' ⟨rfl, hb⟩
    exact ⟨none, 0, rfl, hb⟩
theorem err_cases (s : ByteArray) (l : List S89) : (errN s l = 0 ∧ toldN l = 0 ∧ s.size ≤ 20000) ∨ (errN s l = 2 ∧ toldN l = 0 ∧ 20000 < s.size) ∨ (errN s l ≠ 0 ∧ toldN l ≠ 0) := by
  unfold errN
  by_cases h : 20000 < s.size
  · rw [if_pos h]
    by_cases h2 : toldN l = 0
    · exact Or.inr (Or.inl ⟨rfl, h2, h⟩)
    · exact Or.inr (Or.inr ⟨by decide, h2⟩)
  · rw [if_neg h]
    by_cases h2 : toldN l = 0
    · exact Or.inl ⟨h2, h2, by omega⟩
    · exact Or.inr (Or.inr ⟨h2, h2⟩)
abbrev two (s1 s2 : ByteArray) (A1 : Option Addr) (n1 c1 : Nat) (A2 : Option Addr) (n2 c2 : Nat) : Array Value := #[.string s1, .string s2, .slice A1 n1 c1, .slice A2 n2 c2]
set_option maxHeartbeats 16000000 in
set_option maxRecDepth 1000000 in
theorem unlike_refused (w : World) (s1 s2 : ByteArray) (A1 : Option Addr) (c1 : Nat) (l1 : List S89) (A2 : Option Addr) (c2 : Nat) (l2 : List S89) (hC1 : Kd.C k89 w A1 l1.length l1) (hc1 : l1.length ≤ c1) (hC2 : Kd.C k89 w A2 l2.length l2) (hc2 : l2.length ≤ c2) (hz1 : ∀ t ∈ l1, t.f0.size ≤ 1048576) (hz2 : ∀ t ∈ l2, t.f0.size ≤ 1048576) (hne : errN s1 l1 ≠ 0 ∨ errN s2 l2 ≠ 0) :
    Calls Try.prog 5 #[.agg (two s1 s2 A1 l1.length c1 A2 l2.length c2)] w fun e w' => e = .returned (.bool true) ∧ Below w.heap.size w w' := by
  have HC1 := Aside0.mk hC1
  have HC2 := Aside0.mk hC2
  have HD1 := Aside0.mk hc1
  have HD2 := Aside0.mk hc2
  have HZ1 := Aside0.mk hz1
  have HZ2 := Aside0.mk hz2
  clear hC1 hC2 hc1 hc2 hz1 hz2
  have HB := Aside0.mk (below_alloc (Below.refl w.heap.size w) (.cells (two s1 s2 A1 l1.length c1 A2 l2.length c2) 60))
  have HX := Aside0.mk (heap_alloc_new w (.cells (two s1 s2 A1 l1.length c1 A2 l2.length c2) 60))
  unfold two at HB HX ⊢
  go_enter Try.func5, Try.ntmps5
  go_wp2_with fail
  refine (awake_calls _).mono ?_
  rintro e w1 ⟨rfl, hb⟩
  have HX1 := Aside0.mk ((hb.block _ (blk_lt HX.out)).trans HX.out)
  have HB1 := Aside0.mk (HB.out.trans (hb.mono HB.out.size))
  clear hb HX HB
  have k0 : w1.cell? ⟨w.heap.size, 0, none⟩ = some (.string s1) := (blk_cell HX1.out 0).trans rfl
  have k1 : w1.cell? ⟨w.heap.size, 1, none⟩ = some (.string s2) := (blk_cell HX1.out 1).trans rfl
  have k2 : w1.cell? ⟨w.heap.size, 2, none⟩ = some (.slice A1 l1.length c1) := (blk_cell HX1.out 2).trans rfl
  have k3 : w1.cell? ⟨w.heap.size, 3, none⟩ = some (.slice A2 l2.length c2) := (blk_cell HX1.out 3).trans rfl
  go_wp2_with fail
  refine (bytes_any w1 s1 A1 c1 l1 (Kd.C_below HC1.out HB1.out) HD1.out HZ1.out).mono ?_
  rintro e w2 ⟨a2, n2, rfl, hb⟩
  have HX2 := Aside0.mk ((hb.block _ (blk_lt HX1.out)).trans HX1.out)
  have HB2 := Aside0.mk (HB1.out.trans (hb.mono HB1.out.size))
  clear k0 k1 k2 k3
  clear hb HX1 HB1
  have k0 : w2.cell? ⟨w.heap.size, 0, none⟩ = some (.string s1) := (blk_cell HX2.out 0).trans rfl
  have k1 : w2.cell? ⟨w.heap.size, 1, none⟩ = some (.string s2) := (blk_cell HX2.out 1).trans rfl
  have k2 : w2.cell? ⟨w.heap.size, 2, none⟩ = some (.slice A1 l1.length c1) := (blk_cell HX2.out 2).trans rfl
  have k3 : w2.cell? ⟨w.heap.size, 3, none⟩ = some (.slice A2 l2.length c2) := (blk_cell HX2.out 3).trans rfl
  go_wp2_with fail
  refine (bytes_any w2 s2 A2 c2 l2 (Kd.C_below HC2.out HB2.out) HD2.out HZ2.out).mono ?_
  rintro e w3 ⟨a3, n3, rfl, hb⟩
  have HX3 := Aside0.mk ((hb.block _ (blk_lt HX2.out)).trans HX2.out)
  have HB3 := Aside0.mk (HB2.out.trans (hb.mono HB2.out.size))
  clear k0 k1 k2 k3
  clear hb HX2 HB2
  obtain ⟨z1, hz1⟩ : ∃ z1, toldN l1 = z1 := ⟨_, rfl⟩
  obtain ⟨z2, hz2⟩ : ∃ z2, toldN l2 = z2 := ⟨_, rfl⟩
  have HT1 := Aside0.mk hz1
  have HT2 := Aside0.mk hz2
  have hcs1 := err_cases s1 l1
  have hcs2 := err_cases s2 l2
  rw [hz1] at hcs1
  rw [hz2] at hcs2
  obtain ⟨e1, he1⟩ : ∃ e1, errN s1 l1 = e1 := ⟨_, rfl⟩
  obtain ⟨e2, he2⟩ : ∃ e2, errN s2 l2 = e2 := ⟨_, rfl⟩
  rw [he1] at hcs1 hne ⊢
  rw [he2] at hcs2 hne ⊢
  clear hz1 hz2 he1 he2
  rcases hcs1 with ⟨rfl, rfl, hs1⟩ | ⟨rfl, rfl, hs1⟩ | ⟨he1, ht1⟩
  · rcases hcs2 with ⟨rfl, rfl, hs2⟩ | ⟨rfl, rfl, hs2⟩ | ⟨he2, ht2⟩
    · exact absurd rfl (hne.elim (fun h => absurd rfl h) id)
    · have p1 : decide ((s1.size : Int) ≤ 20000) = true := decide_eq_true (by omega)
      have p1' : decide (s1.size ≤ 20000) = true := decide_eq_true hs1
      have p2 : decide ((s2.size : Int) ≤ 20000) = false := decide_eq_false (by omega)
      have p2' : decide (s2.size ≤ 20000) = false := decide_eq_false (by omega)
      clear hne
      have k0 : w3.cell? ⟨w.heap.size, 0, none⟩ = some (.string s1) := (blk_cell HX3.out 0).trans rfl
      have k1 : w3.cell? ⟨w.heap.size, 1, none⟩ = some (.string s2) := (blk_cell HX3.out 1).trans rfl
      have k2 : w3.cell? ⟨w.heap.size, 2, none⟩ = some (.slice A1 l1.length c1) := (blk_cell HX3.out 2).trans rfl
      have k3 : w3.cell? ⟨w.heap.size, 3, none⟩ = some (.slice A2 l2.length c2) := (blk_cell HX3.out 3).trans rfl
      go_wp2_with fail
      refine (toldRight_calls w3 A1 c1 l1 (Kd.C_below HC1.out HB3.out) HD1.out).mono ?_
      rintro e w4 ⟨rfl, hb⟩
      rw [HT1.out]
      have HX4 := Aside0.mk ((hb.block _ (blk_lt HX3.out)).trans HX3.out)
      have HB4 := Aside0.mk (HB3.out.trans (hb.mono HB3.out.size))
      clear k0 k1 k2 k3
      clear hb HX3 HB3
      have k0 : w4.cell? ⟨w.heap.size, 0, none⟩ = some (.string s1) := (blk_cell HX4.out 0).trans rfl
      have k1 : w4.cell? ⟨w.heap.size, 1, none⟩ = some (.string s2) := (blk_cell HX4.out 1).trans rfl
      have k2 : w4.cell? ⟨w.heap.size, 2, none⟩ = some (.slice A1 l1.length c1) := (blk_cell HX4.out 2).trans rfl
      have k3 : w4.cell? ⟨w.heap.size, 3, none⟩ = some (.slice A2 l2.length c2) := (blk_cell HX4.out 3).trans rfl
      go_wp2_with fail
      refine (toldRight_calls w4 A2 c2 l2 (Kd.C_below HC2.out HB4.out) HD2.out).mono ?_
      rintro e w5 ⟨rfl, hb⟩
      rw [HT2.out]
      have HX5 := Aside0.mk ((hb.block _ (blk_lt HX4.out)).trans HX4.out)
      have HB5 := Aside0.mk (HB4.out.trans (hb.mono HB4.out.size))
      clear k0 k1 k2 k3
      clear hb HX4 HB4
      have k0 : w5.cell? ⟨w.heap.size, 0, none⟩ = some (.string s1) := (blk_cell HX5.out 0).trans rfl
      have k1 : w5.cell? ⟨w.heap.size, 1, none⟩ = some (.string s2) := (blk_cell HX5.out 1).trans rfl
      have k2 : w5.cell? ⟨w.heap.size, 2, none⟩ = some (.slice A1 l1.length c1) := (blk_cell HX5.out 2).trans rfl
      have k3 : w5.cell? ⟨w.heap.size, 3, none⟩ = some (.slice A2 l2.length c2) := (blk_cell HX5.out 3).trans rfl
      go_wp2
      go_ret
      exact ⟨rfl, HB5.out⟩
    · have p1 : decide ((s1.size : Int) ≤ 20000) = true := decide_eq_true (by omega)
      have p1' : decide (s1.size ≤ 20000) = true := decide_eq_true hs1
      have p2 : (e2 == 0) = false := beq_eq_false_iff_ne.2 he2
      have q2 : (e2 != 0) = true := by rw [bne, p2]; rfl
      have r2 : (z2 == 0) = false := beq_eq_false_iff_ne.2 ht2
      clear hne
      have k0 : w3.cell? ⟨w.heap.size, 0, none⟩ = some (.string s1) := (blk_cell HX3.out 0).trans rfl
      have k1 : w3.cell? ⟨w.heap.size, 1, none⟩ = some (.string s2) := (blk_cell HX3.out 1).trans rfl
      have k2 : w3.cell? ⟨w.heap.size, 2, none⟩ = some (.slice A1 l1.length c1) := (blk_cell HX3.out 2).trans rfl
      have k3 : w3.cell? ⟨w.heap.size, 3, none⟩ = some (.slice A2 l2.length c2) := (blk_cell HX3.out 3).trans rfl
      go_wp2_with fail
      refine (toldRight_calls w3 A1 c1 l1 (Kd.C_below HC1.out HB3.out) HD1.out).mono ?_
      rintro e w4 ⟨rfl, hb⟩
      rw [HT1.out]
      have HX4 := Aside0.mk ((hb.block _ (blk_lt HX3.out)).trans HX3.out)
      have HB4 := Aside0.mk (HB3.out.trans (hb.mono HB3.out.size))
      clear k0 k1 k2 k3
      clear hb HX3 HB3
      have k0 : w4.cell? ⟨w.heap.size, 0, none⟩ = some (.string s1) := (blk_cell HX4.out 0).trans rfl
      have k1 : w4.cell? ⟨w.heap.size, 1, none⟩ = some (.string s2) := (blk_cell HX4.out 1).trans rfl
      have k2 : w4.cell? ⟨w.heap.size, 2, none⟩ = some (.slice A1 l1.length c1) := (blk_cell HX4.out 2).trans rfl
      have k3 : w4.cell? ⟨w.heap.size, 3, none⟩ = some (.slice A2 l2.length c2) := (blk_cell HX4.out 3).trans rfl
      go_wp2_with fail
      refine (toldRight_calls w4 A2 c2 l2 (Kd.C_below HC2.out HB4.out) HD2.out).mono ?_
      rintro e w5 ⟨rfl, hb⟩
      rw [HT2.out]
      have HX5 := Aside0.mk ((hb.block _ (blk_lt HX4.out)).trans HX4.out)
      have HB5 := Aside0.mk (HB4.out.trans (hb.mono HB4.out.size))
      clear k0 k1 k2 k3
      clear hb HX4 HB4
      have k0 : w5.cell? ⟨w.heap.size, 0, none⟩ = some (.string s1) := (blk_cell HX5.out 0).trans rfl
      have k1 : w5.cell? ⟨w.heap.size, 1, none⟩ = some (.string s2) := (blk_cell HX5.out 1).trans rfl
      have k2 : w5.cell? ⟨w.heap.size, 2, none⟩ = some (.slice A1 l1.length c1) := (blk_cell HX5.out 2).trans rfl
      have k3 : w5.cell? ⟨w.heap.size, 3, none⟩ = some (.slice A2 l2.length c2) := (blk_cell HX5.out 3).trans rfl
      go_wp2
      go_ret
      exact ⟨rfl, HB5.out⟩
  · rcases hcs2 with ⟨rfl, rfl, hs2⟩ | ⟨rfl, rfl, hs2⟩ | ⟨he2, ht2⟩
    · have p1 : decide ((s1.size : Int) ≤ 20000) = false := decide_eq_false (by omega)
      have p1' : decide (s1.size ≤ 20000) = false := decide_eq_false (by omega)
      have p2 : decide ((s2.size : Int) ≤ 20000) = true := decide_eq_true (by omega)
      have p2' : decide (s2.size ≤ 20000) = true := decide_eq_true hs2
      clear hne
      have k0 : w3.cell? ⟨w.heap.size, 0, none⟩ = some (.string s1) := (blk_cell HX3.out 0).trans rfl
      have k1 : w3.cell? ⟨w.heap.size, 1, none⟩ = some (.string s2) := (blk_cell HX3.out 1).trans rfl
      have k2 : w3.cell? ⟨w.heap.size, 2, none⟩ = some (.slice A1 l1.length c1) := (blk_cell HX3.out 2).trans rfl
      have k3 : w3.cell? ⟨w.heap.size, 3, none⟩ = some (.slice A2 l2.length c2) := (blk_cell HX3.out 3).trans rfl
      go_wp2_with fail
      refine (toldRight_calls w3 A1 c1 l1 (Kd.C_below HC1.out HB3.out) HD1.out).mono ?_
      rintro e w4 ⟨rfl, hb⟩
      rw [HT1.out]
      have HX4 := Aside0.mk ((hb.block _ (blk_lt HX3.out)).trans HX3.out)
      have HB4 := Aside0.mk (HB3.out.trans (hb.mono HB3.out.size))
      clear k0 k1 k2 k3
      clear hb HX3 HB3
      have k0 : w4.cell? ⟨w.heap.size, 0, none⟩ = some (.string s1) := (blk_cell HX4.out 0).trans rfl
      have k1 : w4.cell? ⟨w.heap.size, 1, none⟩ = some (.string s2) := (blk_cell HX4.out 1).trans rfl
      have k2 : w4.cell? ⟨w.heap.size, 2, none⟩ = some (.slice A1 l1.length c1) := (blk_cell HX4.out 2).trans rfl
      have k3 : w4.cell? ⟨w.heap.size, 3, none⟩ = some (.slice A2 l2.length c2) := (blk_cell HX4.out 3).trans rfl
      go_wp2_with fail
      refine (toldRight_calls w4 A2 c2 l2 (Kd.C_below HC2.out HB4.out) HD2.out).mono ?_
      rintro e w5 ⟨rfl, hb⟩
      rw [HT2.out]
      have HX5 := Aside0.mk ((hb.block _ (blk_lt HX4.out)).trans HX4.out)
      have HB5 := Aside0.mk (HB4.out.trans (hb.mono HB4.out.size))
      clear k0 k1 k2 k3
      clear hb HX4 HB4
      have k0 : w5.cell? ⟨w.heap.size, 0, none⟩ = some (.string s1) := (blk_cell HX5.out 0).trans rfl
      have k1 : w5.cell? ⟨w.heap.size, 1, none⟩ = some (.string s2) := (blk_cell HX5.out 1).trans rfl
      have k2 : w5.cell? ⟨w.heap.size, 2, none⟩ = some (.slice A1 l1.length c1) := (blk_cell HX5.out 2).trans rfl
      have k3 : w5.cell? ⟨w.heap.size, 3, none⟩ = some (.slice A2 l2.length c2) := (blk_cell HX5.out 3).trans rfl
      go_wp2
      go_ret
      exact ⟨rfl, HB5.out⟩
    · have p1 : decide ((s1.size : Int) ≤ 20000) = false := decide_eq_false (by omega)
      have p1' : decide (s1.size ≤ 20000) = false := decide_eq_false (by omega)
      have p2 : decide ((s2.size : Int) ≤ 20000) = false := decide_eq_false (by omega)
      have p2' : decide (s2.size ≤ 20000) = false := decide_eq_false (by omega)
      clear hne
      have k0 : w3.cell? ⟨w.heap.size, 0, none⟩ = some (.string s1) := (blk_cell HX3.out 0).trans rfl
      have k1 : w3.cell? ⟨w.heap.size, 1, none⟩ = some (.string s2) := (blk_cell HX3.out 1).trans rfl
      have k2 : w3.cell? ⟨w.heap.size, 2, none⟩ = some (.slice A1 l1.length c1) := (blk_cell HX3.out 2).trans rfl
      have k3 : w3.cell? ⟨w.heap.size, 3, none⟩ = some (.slice A2 l2.length c2) := (blk_cell HX3.out 3).trans rfl
      go_wp2_with fail
      refine (toldRight_calls w3 A1 c1 l1 (Kd.C_below HC1.out HB3.out) HD1.out).mono ?_
      rintro e w4 ⟨rfl, hb⟩
      rw [HT1.out]
      have HX4 := Aside0.mk ((hb.block _ (blk_lt HX3.out)).trans HX3.out)
      have HB4 := Aside0.mk (HB3.out.trans (hb.mono HB3.out.size))
      clear k0 k1 k2 k3
      clear hb HX3 HB3
      have k0 : w4.cell? ⟨w.heap.size, 0, none⟩ = some (.string s1) := (blk_cell HX4.out 0).trans rfl
      have k1 : w4.cell? ⟨w.heap.size, 1, none⟩ = some (.string s2) := (blk_cell HX4.out 1).trans rfl
      have k2 : w4.cell? ⟨w.heap.size, 2, none⟩ = some (.slice A1 l1.length c1) := (blk_cell HX4.out 2).trans rfl
      have k3 : w4.cell? ⟨w.heap.size, 3, none⟩ = some (.slice A2 l2.length c2) := (blk_cell HX4.out 3).trans rfl
      go_wp2_with fail
      refine (toldRight_calls w4 A2 c2 l2 (Kd.C_below HC2.out HB4.out) HD2.out).mono ?_
      rintro e w5 ⟨rfl, hb⟩
      rw [HT2.out]
      have HX5 := Aside0.mk ((hb.block _ (blk_lt HX4.out)).trans HX4.out)
      have HB5 := Aside0.mk (HB4.out.trans (hb.mono HB4.out.size))
      clear k0 k1 k2 k3
      clear hb HX4 HB4
      have k0 : w5.cell? ⟨w.heap.size, 0, none⟩ = some (.string s1) := (blk_cell HX5.out 0).trans rfl
      have k1 : w5.cell? ⟨w.heap.size, 1, none⟩ = some (.string s2) := (blk_cell HX5.out 1).trans rfl
      have k2 : w5.cell? ⟨w.heap.size, 2, none⟩ = some (.slice A1 l1.length c1) := (blk_cell HX5.out 2).trans rfl
      have k3 : w5.cell? ⟨w.heap.size, 3, none⟩ = some (.slice A2 l2.length c2) := (blk_cell HX5.out 3).trans rfl
      go_wp2
      go_ret
      exact ⟨rfl, HB5.out⟩
    · have p1 : decide ((s1.size : Int) ≤ 20000) = false := decide_eq_false (by omega)
      have p1' : decide (s1.size ≤ 20000) = false := decide_eq_false (by omega)
      have p2 : (e2 == 0) = false := beq_eq_false_iff_ne.2 he2
      have q2 : (e2 != 0) = true := by rw [bne, p2]; rfl
      have r2 : (z2 == 0) = false := beq_eq_false_iff_ne.2 ht2
      clear hne
      have k0 : w3.cell? ⟨w.heap.size, 0, none⟩ = some (.string s1) := (blk_cell HX3.out 0).trans rfl
      have k1 : w3.cell? ⟨w.heap.size, 1, none⟩ = some (.string s2) := (blk_cell HX3.out 1).trans rfl
      have k2 : w3.cell? ⟨w.heap.size, 2, none⟩ = some (.slice A1 l1.length c1) := (blk_cell HX3.out 2).trans rfl
      have k3 : w3.cell? ⟨w.heap.size, 3, none⟩ = some (.slice A2 l2.length c2) := (blk_cell HX3.out 3).trans rfl
      go_wp2_with fail
      refine (toldRight_calls w3 A1 c1 l1 (Kd.C_below HC1.out HB3.out) HD1.out).mono ?_
      rintro e w4 ⟨rfl, hb⟩
      rw [HT1.out]
      have HX4 := Aside0.mk ((hb.block _ (blk_lt HX3.out)).trans HX3.out)
      have HB4 := Aside0.mk (HB3.out.trans (hb.mono HB3.out.size))
      clear k0 k1 k2 k3
      clear hb HX3 HB3
      have k0 : w4.cell? ⟨w.heap.size, 0, none⟩ = some (.string s1) := (blk_cell HX4.out 0).trans rfl
      have k1 : w4.cell? ⟨w.heap.size, 1, none⟩ = some (.string s2) := (blk_cell HX4.out 1).trans rfl
      have k2 : w4.cell? ⟨w.heap.size, 2, none⟩ = some (.slice A1 l1.length c1) := (blk_cell HX4.out 2).trans rfl
      have k3 : w4.cell? ⟨w.heap.size, 3, none⟩ = some (.slice A2 l2.length c2) := (blk_cell HX4.out 3).trans rfl
      go_wp2_with fail
      refine (toldRight_calls w4 A2 c2 l2 (Kd.C_below HC2.out HB4.out) HD2.out).mono ?_
      rintro e w5 ⟨rfl, hb⟩
      rw [HT2.out]
      have HX5 := Aside0.mk ((hb.block _ (blk_lt HX4.out)).trans HX4.out)
      have HB5 := Aside0.mk (HB4.out.trans (hb.mono HB4.out.size))
      clear k0 k1 k2 k3
      clear hb HX4 HB4
      have k0 : w5.cell? ⟨w.heap.size, 0, none⟩ = some (.string s1) := (blk_cell HX5.out 0).trans rfl
      have k1 : w5.cell? ⟨w.heap.size, 1, none⟩ = some (.string s2) := (blk_cell HX5.out 1).trans rfl
      have k2 : w5.cell? ⟨w.heap.size, 2, none⟩ = some (.slice A1 l1.length c1) := (blk_cell HX5.out 2).trans rfl
      have k3 : w5.cell? ⟨w.heap.size, 3, none⟩ = some (.slice A2 l2.length c2) := (blk_cell HX5.out 3).trans rfl
      go_wp2
      go_ret
      exact ⟨rfl, HB5.out⟩
  · rcases hcs2 with ⟨rfl, rfl, hs2⟩ | ⟨rfl, rfl, hs2⟩ | ⟨he2, ht2⟩
    · have p1 : (e1 == 0) = false := beq_eq_false_iff_ne.2 he1
      have q1 : (e1 != 0) = true := by rw [bne, p1]; rfl
      have r1 : (z1 == 0) = false := beq_eq_false_iff_ne.2 ht1
      have p2 : decide ((s2.size : Int) ≤ 20000) = true := decide_eq_true (by omega)
      have p2' : decide (s2.size ≤ 20000) = true := decide_eq_true hs2
      clear hne
      have k0 : w3.cell? ⟨w.heap.size, 0, none⟩ = some (.string s1) := (blk_cell HX3.out 0).trans rfl
      have k1 : w3.cell? ⟨w.heap.size, 1, none⟩ = some (.string s2) := (blk_cell HX3.out 1).trans rfl
      have k2 : w3.cell? ⟨w.heap.size, 2, none⟩ = some (.slice A1 l1.length c1) := (blk_cell HX3.out 2).trans rfl
      have k3 : w3.cell? ⟨w.heap.size, 3, none⟩ = some (.slice A2 l2.length c2) := (blk_cell HX3.out 3).trans rfl
      go_wp2_with fail
      refine (toldRight_calls w3 A1 c1 l1 (Kd.C_below HC1.out HB3.out) HD1.out).mono ?_
      rintro e w4 ⟨rfl, hb⟩
      rw [HT1.out]
      have HX4 := Aside0.mk ((hb.block _ (blk_lt HX3.out)).trans HX3.out)
      have HB4 := Aside0.mk (HB3.out.trans (hb.mono HB3.out.size))
      clear k0 k1 k2 k3
      clear hb HX3 HB3
      have k0 : w4.cell? ⟨w.heap.size, 0, none⟩ = some (.string s1) := (blk_cell HX4.out 0).trans rfl
      have k1 : w4.cell? ⟨w.heap.size, 1, none⟩ = some (.string s2) := (blk_cell HX4.out 1).trans rfl
      have k2 : w4.cell? ⟨w.heap.size, 2, none⟩ = some (.slice A1 l1.length c1) := (blk_cell HX4.out 2).trans rfl
      have k3 : w4.cell? ⟨w.heap.size, 3, none⟩ = some (.slice A2 l2.length c2) := (blk_cell HX4.out 3).trans rfl
      go_wp2_with fail
      refine (toldRight_calls w4 A2 c2 l2 (Kd.C_below HC2.out HB4.out) HD2.out).mono ?_
      rintro e w5 ⟨rfl, hb⟩
      rw [HT2.out]
      have HX5 := Aside0.mk ((hb.block _ (blk_lt HX4.out)).trans HX4.out)
      have HB5 := Aside0.mk (HB4.out.trans (hb.mono HB4.out.size))
      clear k0 k1 k2 k3
      clear hb HX4 HB4
      have k0 : w5.cell? ⟨w.heap.size, 0, none⟩ = some (.string s1) := (blk_cell HX5.out 0).trans rfl
      have k1 : w5.cell? ⟨w.heap.size, 1, none⟩ = some (.string s2) := (blk_cell HX5.out 1).trans rfl
      have k2 : w5.cell? ⟨w.heap.size, 2, none⟩ = some (.slice A1 l1.length c1) := (blk_cell HX5.out 2).trans rfl
      have k3 : w5.cell? ⟨w.heap.size, 3, none⟩ = some (.slice A2 l2.length c2) := (blk_cell HX5.out 3).trans rfl
      go_wp2
      go_ret
      exact ⟨rfl, HB5.out⟩
    · have p1 : (e1 == 0) = false := beq_eq_false_iff_ne.2 he1
      have q1 : (e1 != 0) = true := by rw [bne, p1]; rfl
      have r1 : (z1 == 0) = false := beq_eq_false_iff_ne.2 ht1
      have p2 : decide ((s2.size : Int) ≤ 20000) = false := decide_eq_false (by omega)
      have p2' : decide (s2.size ≤ 20000) = false := decide_eq_false (by omega)
      clear hne
      have k0 : w3.cell? ⟨w.heap.size, 0, none⟩ = some (.string s1) := (blk_cell HX3.out 0).trans rfl
      have k1 : w3.cell? ⟨w.heap.size, 1, none⟩ = some (.string s2) := (blk_cell HX3.out 1).trans rfl
      have k2 : w3.cell? ⟨w.heap.size, 2, none⟩ = some (.slice A1 l1.length c1) := (blk_cell HX3.out 2).trans rfl
      have k3 : w3.cell? ⟨w.heap.size, 3, none⟩ = some (.slice A2 l2.length c2) := (blk_cell HX3.out 3).trans rfl
      go_wp2_with fail
      refine (toldRight_calls w3 A1 c1 l1 (Kd.C_below HC1.out HB3.out) HD1.out).mono ?_
      rintro e w4 ⟨rfl, hb⟩
      rw [HT1.out]
      have HX4 := Aside0.mk ((hb.block _ (blk_lt HX3.out)).trans HX3.out)
      have HB4 := Aside0.mk (HB3.out.trans (hb.mono HB3.out.size))
      clear k0 k1 k2 k3
      clear hb HX3 HB3
      have k0 : w4.cell? ⟨w.heap.size, 0, none⟩ = some (.string s1) := (blk_cell HX4.out 0).trans rfl
      have k1 : w4.cell? ⟨w.heap.size, 1, none⟩ = some (.string s2) := (blk_cell HX4.out 1).trans rfl
      have k2 : w4.cell? ⟨w.heap.size, 2, none⟩ = some (.slice A1 l1.length c1) := (blk_cell HX4.out 2).trans rfl
      have k3 : w4.cell? ⟨w.heap.size, 3, none⟩ = some (.slice A2 l2.length c2) := (blk_cell HX4.out 3).trans rfl
      go_wp2_with fail
      refine (toldRight_calls w4 A2 c2 l2 (Kd.C_below HC2.out HB4.out) HD2.out).mono ?_
      rintro e w5 ⟨rfl, hb⟩
      rw [HT2.out]
      have HX5 := Aside0.mk ((hb.block _ (blk_lt HX4.out)).trans HX4.out)
      have HB5 := Aside0.mk (HB4.out.trans (hb.mono HB4.out.size))
      clear k0 k1 k2 k3
      clear hb HX4 HB4
      have k0 : w5.cell? ⟨w.heap.size, 0, none⟩ = some (.string s1) := (blk_cell HX5.out 0).trans rfl
      have k1 : w5.cell? ⟨w.heap.size, 1, none⟩ = some (.string s2) := (blk_cell HX5.out 1).trans rfl
      have k2 : w5.cell? ⟨w.heap.size, 2, none⟩ = some (.slice A1 l1.length c1) := (blk_cell HX5.out 2).trans rfl
      have k3 : w5.cell? ⟨w.heap.size, 3, none⟩ = some (.slice A2 l2.length c2) := (blk_cell HX5.out 3).trans rfl
      go_wp2
      go_ret
      exact ⟨rfl, HB5.out⟩
    · have p1 : (e1 == 0) = false := beq_eq_false_iff_ne.2 he1
      have q1 : (e1 != 0) = true := by rw [bne, p1]; rfl
      have r1 : (z1 == 0) = false := beq_eq_false_iff_ne.2 ht1
      have p2 : (e2 == 0) = false := beq_eq_false_iff_ne.2 he2
      have q2 : (e2 != 0) = true := by rw [bne, p2]; rfl
      have r2 : (z2 == 0) = false := beq_eq_false_iff_ne.2 ht2
      clear hne
      have k0 : w3.cell? ⟨w.heap.size, 0, none⟩ = some (.string s1) := (blk_cell HX3.out 0).trans rfl
      have k1 : w3.cell? ⟨w.heap.size, 1, none⟩ = some (.string s2) := (blk_cell HX3.out 1).trans rfl
      have k2 : w3.cell? ⟨w.heap.size, 2, none⟩ = some (.slice A1 l1.length c1) := (blk_cell HX3.out 2).trans rfl
      have k3 : w3.cell? ⟨w.heap.size, 3, none⟩ = some (.slice A2 l2.length c2) := (blk_cell HX3.out 3).trans rfl
      go_wp2_with fail
      refine (toldRight_calls w3 A1 c1 l1 (Kd.C_below HC1.out HB3.out) HD1.out).mono ?_
      rintro e w4 ⟨rfl, hb⟩
      rw [HT1.out]
      have HX4 := Aside0.mk ((hb.block _ (blk_lt HX3.out)).trans HX3.out)
      have HB4 := Aside0.mk (HB3.out.trans (hb.mono HB3.out.size))
      clear k0 k1 k2 k3
      clear hb HX3 HB3
      have k0 : w4.cell? ⟨w.heap.size, 0, none⟩ = some (.string s1) := (blk_cell HX4.out 0).trans rfl
      have k1 : w4.cell? ⟨w.heap.size, 1, none⟩ = some (.string s2) := (blk_cell HX4.out 1).trans rfl
      have k2 : w4.cell? ⟨w.heap.size, 2, none⟩ = some (.slice A1 l1.length c1) := (blk_cell HX4.out 2).trans rfl
      have k3 : w4.cell? ⟨w.heap.size, 3, none⟩ = some (.slice A2 l2.length c2) := (blk_cell HX4.out 3).trans rfl
      go_wp2_with fail
      refine (toldRight_calls w4 A2 c2 l2 (Kd.C_below HC2.out HB4.out) HD2.out).mono ?_
      rintro e w5 ⟨rfl, hb⟩
      rw [HT2.out]
      have HX5 := Aside0.mk ((hb.block _ (blk_lt HX4.out)).trans HX4.out)
      have HB5 := Aside0.mk (HB4.out.trans (hb.mono HB4.out.size))
      clear k0 k1 k2 k3
      clear hb HX4 HB4
      have k0 : w5.cell? ⟨w.heap.size, 0, none⟩ = some (.string s1) := (blk_cell HX5.out 0).trans rfl
      have k1 : w5.cell? ⟨w.heap.size, 1, none⟩ = some (.string s2) := (blk_cell HX5.out 1).trans rfl
      have k2 : w5.cell? ⟨w.heap.size, 2, none⟩ = some (.slice A1 l1.length c1) := (blk_cell HX5.out 2).trans rfl
      have k3 : w5.cell? ⟨w.heap.size, 3, none⟩ = some (.slice A2 l2.length c2) := (blk_cell HX5.out 3).trans rfl
      go_wp2
      go_ret
      exact ⟨rfl, HB5.out⟩
end Go.Proofs.Ytdhdofkpgaibiaa.Ex
namespace Go.Proofs.Ytdhdofkpgaibiaa.Ex
open Go.RowKit Go.Proofs.YtdhdofkpgaibiaaW.PrintWords Go.Proofs.YtdhdofkpgaibiaaW.PrintLast Go.Proofs.YtdhdofkpgaibiaaW.PrintMore Go.Proofs.Ytdhdofkpgaibiaa.PStampTells Go.Proofs.Ytdhdofkpgaibiaa.Sev Go.Proofs.Ytdhdofkpgaibiaa.Base Go.Proofs.Ytdhdofkpgaibiaa.St
open Classical
set_option linter.unusedVariables false
set_option linter.unusedSimpArgs false
theorem str_inj {a b : List Int} (ha : ∀ x ∈ a, 0 ≤ x ∧ x < 256) (hb : ∀ x ∈ b, 0 ≤ x ∧ x < 256) (h : (strOfNums a).toList = (strOfNums b).toList) : a = b := by
  have h1 := St.equal_tells a b ha hb
  unfold bytes_Equal.f at h1
  rw [h, beq_self_eq_true] at h1
  exact of_decide_eq_true (Option.some.inj h1).symm
set_option maxHeartbeats 16000000 in
set_option maxRecDepth 1000000 in
theorem unlike_both (w : World) (s1 s2 : ByteArray) (A1 : Option Addr) (c1 : Nat) (l1 : List S89) (A2 : Option Addr) (c2 : Nat) (l2 : List S89) (hC1 : Kd.C k89 w A1 l1.length l1) (hc1 : l1.length ≤ c1) (hC2 : Kd.C k89 w A2 l2.length l2) (hc2 : l2.length ≤ c2) (hz1 : ∀ t ∈ l1, t.f0.size ≤ 1048576) (hz2 : ∀ t ∈ l2, t.f0.size ≤ 1048576) (he1 : errN s1 l1 = 0) (he2 : errN s2 l2 = 0) :
    Calls Try.prog 5 #[.agg (two s1 s2 A1 l1.length c1 A2 l2.length c2)] w fun e w' => e = .returned (.bool true) ∧ Below w.heap.size w w' := by
  obtain ⟨hs1, hn1⟩ := errN_ok he1
  obtain ⟨hs2, hn2⟩ := errN_ok he2
  have HBY1 := fun w hC => bytes_calls w s1 A1 c1 l1 hC hc1 hs1 hn1 hz1
  have HBY2 := fun w hC => bytes_calls w s2 A2 c2 l2 hC hc2 hs2 hn2 hz2
  have HLO1 := fun w hC => local_calls w s1 A1 c1 l1 hC hc1 he1 hz1
  have HLO2 := fun w hC => local_calls w s2 A2 c2 l2 hC hc2 he2 hz2
  have hr1 := bytesN_range s1 l1 hs1 hn1 hz1
  have hr2 := bytesN_range s2 l2 hs2 hn2 hz2
  have hln1 := bytesN_len s1 l1 hs1 hn1 hz1
  have hln2 := bytesN_len s2 l2 hs2 hn2 hz2
  have hlaw := unlike (s := s1) (s' := s2) hn1 hn2
  have hsm : s1 = s2 → l1 = l2 → bytesN s1 l1 = bytesN s2 l2 := fun h1 h2 => by rw [h1, h2]
  obtain ⟨L1, hL1⟩ : ∃ L1, bytesN s1 l1 = L1 := ⟨_, rfl⟩
  obtain ⟨L2, hL2⟩ : ∃ L2, bytesN s2 l2 = L2 := ⟨_, rfl⟩
  rw [hL1] at HBY1 HLO1 hr1 hln1 hlaw hsm
  rw [hL2] at HBY2 HLO2 hr2 hln2 hlaw hsm
  have HT1 := Aside0.mk hn1
  have HT2 := Aside0.mk hn2
  have HSM := Aside0.mk hsm
  have HLAW := Aside0.mk hlaw
  have HR1 := Aside0.mk hr1
  have HR2 := Aside0.mk hr2
  have HLN1 := Aside0.mk hln1
  have HLN2 := Aside0.mk hln2
  have p1 : decide ((s1.size : Int) ≤ 20000) = true := decide_eq_true (by omega)
  have p1' : decide (s1.size ≤ 20000) = true := decide_eq_true hs1
  have p2 : decide ((s2.size : Int) ≤ 20000) = true := decide_eq_true (by omega)
  have p2' : decide (s2.size ≤ 20000) = true := decide_eq_true hs2
  have HS1 := Aside0.mk hs1
  have HS2 := Aside0.mk hs2
  clear hn1 hn2 he1 he2 hr1 hr2 hln1 hln2 hlaw hsm hL1 hL2 hs1 hs2
  have HC1 := Aside0.mk hC1
  have HC2 := Aside0.mk hC2
  have HD1 := Aside0.mk hc1
  have HD2 := Aside0.mk hc2
  have HZ1 := Aside0.mk hz1
  have HZ2 := Aside0.mk hz2
  clear hC1 hC2 hc1 hc2 hz1 hz2
  have HB := Aside0.mk (below_alloc (Below.refl w.heap.size w) (.cells (two s1 s2 A1 l1.length c1 A2 l2.length c2) 60))
  have HX := Aside0.mk (heap_alloc_new w (.cells (two s1 s2 A1 l1.length c1 A2 l2.length c2) 60))
  unfold two at HB HX ⊢
  go_enter Try.func5, Try.ntmps5
  go_wp2_with fail
  refine (awake_calls _).mono ?_
  rintro e w1 ⟨rfl, hb⟩
  have HX1 := Aside0.mk ((hb.block _ (blk_lt HX.out)).trans HX.out)
  have HB1 := Aside0.mk (HB.out.trans (hb.mono HB.out.size))
  clear hb HX HB
  replace HBY1 := HBY1 w1 (Kd.C_below HC1.out HB1.out)
  have k0 : w1.cell? ⟨w.heap.size, 0, none⟩ = some (.string s1) := (blk_cell HX1.out 0).trans rfl
  have k1 : w1.cell? ⟨w.heap.size, 1, none⟩ = some (.string s2) := (blk_cell HX1.out 1).trans rfl
  have k2 : w1.cell? ⟨w.heap.size, 2, none⟩ = some (.slice A1 l1.length c1) := (blk_cell HX1.out 2).trans rfl
  have k3 : w1.cell? ⟨w.heap.size, 3, none⟩ = some (.slice A2 l2.length c2) := (blk_cell HX1.out 3).trans rfl
  go_wp2_with fail
  refine (HBY1).mono ?_
  rintro e w2 ⟨B1, b1, rfl, hr, hb⟩
  have HX2 := Aside0.mk ((hb.block _ (blk_lt HX1.out)).trans HX1.out)
  have HB2 := Aside0.mk (HB1.out.trans (hb.mono HB1.out.size))
  clear k0 k1 k2 k3
  have HQ1 := Aside0.mk (Kd.R_reads' hr)
  clear hr HBY1
  clear hb HX1 HB1
  replace HBY2 := HBY2 w2 (Kd.C_below HC2.out HB2.out)
  have k0 : w2.cell? ⟨w.heap.size, 0, none⟩ = some (.string s1) := (blk_cell HX2.out 0).trans rfl
  have k1 : w2.cell? ⟨w.heap.size, 1, none⟩ = some (.string s2) := (blk_cell HX2.out 1).trans rfl
  have k2 : w2.cell? ⟨w.heap.size, 2, none⟩ = some (.slice A1 l1.length c1) := (blk_cell HX2.out 2).trans rfl
  have k3 : w2.cell? ⟨w.heap.size, 3, none⟩ = some (.slice A2 l2.length c2) := (blk_cell HX2.out 3).trans rfl
  go_wp2_with fail
  refine (HBY2).mono ?_
  rintro e w3 ⟨B2, b2, rfl, hr, hb⟩
  have HX3 := Aside0.mk ((hb.block _ (blk_lt HX2.out)).trans HX2.out)
  have HB3 := Aside0.mk (HB2.out.trans (hb.mono HB2.out.size))
  clear k0 k1 k2 k3
  have HQ2 := Aside0.mk (Kd.R_reads' hr)
  have HQ1 := Aside0.mk (And.intro HQ1.out.2.1 (Kd.C_below HQ1.out.2.2 hb))
  clear hr HBY2
  clear hb HX2 HB2
  have k0 : w3.cell? ⟨w.heap.size, 0, none⟩ = some (.string s1) := (blk_cell HX3.out 0).trans rfl
  have k1 : w3.cell? ⟨w.heap.size, 1, none⟩ = some (.string s2) := (blk_cell HX3.out 1).trans rfl
  have k2 : w3.cell? ⟨w.heap.size, 2, none⟩ = some (.slice A1 l1.length c1) := (blk_cell HX3.out 2).trans rfl
  have k3 : w3.cell? ⟨w.heap.size, 3, none⟩ = some (.slice A2 l2.length c2) := (blk_cell HX3.out 3).trans rfl
  go_wp2_with fail
  refine (toldRight_calls w3 A1 c1 l1 (Kd.C_below HC1.out HB3.out) HD1.out).mono ?_
  rintro e w4 ⟨rfl, hb⟩
  have HX4 := Aside0.mk ((hb.block _ (blk_lt HX3.out)).trans HX3.out)
  have HB4 := Aside0.mk (HB3.out.trans (hb.mono HB3.out.size))
  clear k0 k1 k2 k3
  rw [HT1.out]
  have HQ2 := Aside0.mk (And.intro HQ2.out.2.1 (Kd.C_below HQ2.out.2.2 hb))
  have HQ1 := Aside0.mk (And.intro HQ1.out.1 (Kd.C_below HQ1.out.2 hb))
  clear hb HX3 HB3
  have k0 : w4.cell? ⟨w.heap.size, 0, none⟩ = some (.string s1) := (blk_cell HX4.out 0).trans rfl
  have k1 : w4.cell? ⟨w.heap.size, 1, none⟩ = some (.string s2) := (blk_cell HX4.out 1).trans rfl
  have k2 : w4.cell? ⟨w.heap.size, 2, none⟩ = some (.slice A1 l1.length c1) := (blk_cell HX4.out 2).trans rfl
  have k3 : w4.cell? ⟨w.heap.size, 3, none⟩ = some (.slice A2 l2.length c2) := (blk_cell HX4.out 3).trans rfl
  go_wp2_with fail
  refine (toldRight_calls w4 A2 c2 l2 (Kd.C_below HC2.out HB4.out) HD2.out).mono ?_
  rintro e w5 ⟨rfl, hb⟩
  have HX5 := Aside0.mk ((hb.block _ (blk_lt HX4.out)).trans HX4.out)
  have HB5 := Aside0.mk (HB4.out.trans (hb.mono HB4.out.size))
  clear k0 k1 k2 k3
  rw [HT2.out]
  have HQ2 := Aside0.mk (And.intro HQ2.out.1 (Kd.C_below HQ2.out.2 hb))
  have HQ1 := Aside0.mk (And.intro HQ1.out.1 (Kd.C_below HQ1.out.2 hb))
  clear hb HX4 HB4

  by_cases hsame : s1 = s2 ∧ l1 = l2
  · have q0 : (s1.toList == s2.toList) = true := by rw [hsame.1]; exact beq_self_eq_true _
    have hL := HSM.out hsame.1 hsame.2
    have hd : decide (l1 = l2) = true := decide_eq_true hsame.2
    subst hL
    clear hsame
    have k0 : w5.cell? ⟨w.heap.size, 0, none⟩ = some (.string s1) := (blk_cell HX5.out 0).trans rfl
    have k1 : w5.cell? ⟨w.heap.size, 1, none⟩ = some (.string s2) := (blk_cell HX5.out 1).trans rfl
    have k2 : w5.cell? ⟨w.heap.size, 2, none⟩ = some (.slice A1 l1.length c1) := (blk_cell HX5.out 2).trans rfl
    have k3 : w5.cell? ⟨w.heap.size, 3, none⟩ = some (.slice A2 l2.length c2) := (blk_cell HX5.out 3).trans rfl
    go_wp2_with fail
    refine (StS.same_calls l1 l2 A1 c1 A2 c2 w5 (Kd.C_below HC1.out HB5.out) HD1.out (Kd.C_below HC2.out HB5.out) HD2.out).mono ?_
    rintro e w6 ⟨rfl, hb⟩
    have HX6 := Aside0.mk ((hb.block _ (blk_lt HX5.out)).trans HX5.out)
    have HB6 := Aside0.mk (HB5.out.trans (hb.mono HB5.out.size))
    clear k0 k1 k2 k3
    rw [hd]
    have HQ2 := Aside0.mk (And.intro HQ2.out.1 (Kd.C_below HQ2.out.2 hb))
    have HQ1 := Aside0.mk (And.intro HQ1.out.1 (Kd.C_below HQ1.out.2 hb))
    clear hb HX5 HB5
    clear p1 p1' p2 p2'
    have v1 := fun n => Kd.C_string (c := L1.length) Try.underlying27 Try.underlying5 Try.underlying9 (Kd.C_drewN (Kd.C_take HQ1.out.2 (m := L1.length) (by omega)) n)
    rw [List.length_take, Nat.min_eq_left (by omega)] at v1
    rw [List.take_length] at v1
    obtain ⟨t1, ht1⟩ : ∃ t1, strOfNums L1 = t1 := ⟨_, rfl⟩
    have v2 := fun n => Kd.C_string (c := L1.length) Try.underlying27 Try.underlying5 Try.underlying9 (Kd.C_drewN HQ2.out.2 n)
    simp only [ht1] at v1 v2
    have q1 : (t1.toList == t1.toList) = true := beq_self_eq_true _
    clear ht1
    go_wp2_with fail
    go_quiet (fail)
    have HX20 := Aside0.mk (show (w6.drewN nq).heap[w.heap.size]? = _ from HX6.out)
    have HB20 := Aside0.mk (show Below w.heap.size w (w6.drewN nq) from ⟨HB6.out.os, HB6.out.tape, HB6.out.output, HB6.out.size, HB6.out.block⟩)
    clear v1 v2
    generalize w6.drewN nq = w20 at HX20 HB20 ⊢
    have k0 : w20.cell? ⟨w.heap.size, 0, none⟩ = some (.string s1) := (blk_cell HX20.out 0).trans rfl
    have k1 : w20.cell? ⟨w.heap.size, 1, none⟩ = some (.string s2) := (blk_cell HX20.out 1).trans rfl
    have k2 : w20.cell? ⟨w.heap.size, 2, none⟩ = some (.slice A1 l1.length c1) := (blk_cell HX20.out 2).trans rfl
    have k3 : w20.cell? ⟨w.heap.size, 3, none⟩ = some (.slice A2 l2.length c2) := (blk_cell HX20.out 3).trans rfl
    go_wp2_with fail
    refine (HLO1 w20 (Kd.C_below HC1.out HB20.out)).mono ?_
    rintro e w21 ⟨rfl, hb⟩
    have HX21 := Aside0.mk ((hb.block _ (blk_lt HX20.out)).trans HX20.out)
    have HB21 := Aside0.mk (HB20.out.trans (hb.mono HB20.out.size))
    clear k0 k1 k2 k3
    clear hb HX20 HB20
    have k0 : w21.cell? ⟨w.heap.size, 0, none⟩ = some (.string s1) := (blk_cell HX21.out 0).trans rfl
    have k1 : w21.cell? ⟨w.heap.size, 1, none⟩ = some (.string s2) := (blk_cell HX21.out 1).trans rfl
    have k2 : w21.cell? ⟨w.heap.size, 2, none⟩ = some (.slice A1 l1.length c1) := (blk_cell HX21.out 2).trans rfl
    have k3 : w21.cell? ⟨w.heap.size, 3, none⟩ = some (.slice A2 l2.length c2) := (blk_cell HX21.out 3).trans rfl
    go_wp2_with fail
    refine (HLO2 w21 (Kd.C_below HC2.out HB21.out)).mono ?_
    rintro e w22 ⟨rfl, hb⟩
    have HX22 := Aside0.mk ((hb.block _ (blk_lt HX21.out)).trans HX21.out)
    have HB22 := Aside0.mk (HB21.out.trans (hb.mono HB21.out.size))
    clear k0 k1 k2 k3
    clear hb HX21 HB21
    have qd : (((digN L1 : Nat) : Int) == ((digN L1 : Nat) : Int)) = true := beq_self_eq_true _
    go_wp2
    go_ret
    exact ⟨by simp, HB22.out⟩
  · have hns := hsame
    clear hsame
    by_cases hse : s1 = s2
    · have q0 : (s1.toList == s2.toList) = true := by rw [hse]; exact beq_self_eq_true _
      have hd : decide (l1 = l2) = false := decide_eq_false (fun h => hns ⟨hse, h⟩)
      clear hse
      have k0 : w5.cell? ⟨w.heap.size, 0, none⟩ = some (.string s1) := (blk_cell HX5.out 0).trans rfl
      have k1 : w5.cell? ⟨w.heap.size, 1, none⟩ = some (.string s2) := (blk_cell HX5.out 1).trans rfl
      have k2 : w5.cell? ⟨w.heap.size, 2, none⟩ = some (.slice A1 l1.length c1) := (blk_cell HX5.out 2).trans rfl
      have k3 : w5.cell? ⟨w.heap.size, 3, none⟩ = some (.slice A2 l2.length c2) := (blk_cell HX5.out 3).trans rfl
      go_wp2_with fail
      refine (StS.same_calls l1 l2 A1 c1 A2 c2 w5 (Kd.C_below HC1.out HB5.out) HD1.out (Kd.C_below HC2.out HB5.out) HD2.out).mono ?_
      rintro e w6 ⟨rfl, hb⟩
      have HX6 := Aside0.mk ((hb.block _ (blk_lt HX5.out)).trans HX5.out)
      have HB6 := Aside0.mk (HB5.out.trans (hb.mono HB5.out.size))
      clear k0 k1 k2 k3
      rw [hd]
      have HQ2 := Aside0.mk (And.intro HQ2.out.1 (Kd.C_below HQ2.out.2 hb))
      have HQ1 := Aside0.mk (And.intro HQ1.out.1 (Kd.C_below HQ1.out.2 hb))
      clear hb HX5 HB5
      clear p1 p1' p2 p2'
      rcases Nat.lt_or_ge L2.length L1.length with hll | hll
      · have hle : L2.length ≤ L1.length := by omega
        have v1 := fun n => Kd.C_string (c := L1.length) Try.underlying27 Try.underlying5 Try.underlying9 (Kd.C_drewN (Kd.C_take HQ1.out.2 (m := L2.length) (by omega)) n)
        rw [List.length_take, Nat.min_eq_left (by omega)] at v1
        have v2 := fun n => Kd.C_string (c := L2.length) Try.underlying27 Try.underlying5 Try.underlying9 (Kd.C_drewN (Kd.C_take HQ2.out.2 (m := L2.length) (by omega)) n)
        rw [List.length_take, Nat.min_eq_left (by omega)] at v2
        have hneq : L1.take L2.length ≠ L2.take L2.length := fun h => hns (HLAW.out.1 (by rw [Nat.min_eq_right hle]; exact h))
        have q1 : ((strOfNums (L1.take L2.length)).toList == (strOfNums (L2.take L2.length)).toList) = false := beq_eq_false_iff_ne.2 (fun h => hneq (str_inj (fun x hx => HR1.out x (List.mem_of_mem_take hx)) (fun x hx => HR2.out x (List.mem_of_mem_take hx)) h))
        obtain ⟨t1, ht1⟩ : ∃ t1, strOfNums (L1.take L2.length) = t1 := ⟨_, rfl⟩
        obtain ⟨t2, ht2⟩ : ∃ t2, strOfNums (L2.take L2.length) = t2 := ⟨_, rfl⟩
        rw [ht1, ht2] at q1
        simp only [ht1] at v1
        simp only [ht2] at v2
        clear ht1 ht2 hneq
        go_wp2_with fail
        go_quiet (fail)
        have HX20 := Aside0.mk (show (w6.drewN nq).heap[w.heap.size]? = _ from HX6.out)
        have HB20 := Aside0.mk (show Below w.heap.size w (w6.drewN nq) from ⟨HB6.out.os, HB6.out.tape, HB6.out.output, HB6.out.size, HB6.out.block⟩)
        clear v1 v2
        generalize w6.drewN nq = w20 at HX20 HB20 ⊢
        have k0 : w20.cell? ⟨w.heap.size, 0, none⟩ = some (.string s1) := (blk_cell HX20.out 0).trans rfl
        have k1 : w20.cell? ⟨w.heap.size, 1, none⟩ = some (.string s2) := (blk_cell HX20.out 1).trans rfl
        have k2 : w20.cell? ⟨w.heap.size, 2, none⟩ = some (.slice A1 l1.length c1) := (blk_cell HX20.out 2).trans rfl
        have k3 : w20.cell? ⟨w.heap.size, 3, none⟩ = some (.slice A2 l2.length c2) := (blk_cell HX20.out 3).trans rfl
        go_wp2_with fail
        refine (HLO1 w20 (Kd.C_below HC1.out HB20.out)).mono ?_
        rintro e w21 ⟨rfl, hb⟩
        have HX21 := Aside0.mk ((hb.block _ (blk_lt HX20.out)).trans HX20.out)
        have HB21 := Aside0.mk (HB20.out.trans (hb.mono HB20.out.size))
        clear k0 k1 k2 k3
        clear hb HX20 HB20
        have k0 : w21.cell? ⟨w.heap.size, 0, none⟩ = some (.string s1) := (blk_cell HX21.out 0).trans rfl
        have k1 : w21.cell? ⟨w.heap.size, 1, none⟩ = some (.string s2) := (blk_cell HX21.out 1).trans rfl
        have k2 : w21.cell? ⟨w.heap.size, 2, none⟩ = some (.slice A1 l1.length c1) := (blk_cell HX21.out 2).trans rfl
        have k3 : w21.cell? ⟨w.heap.size, 3, none⟩ = some (.slice A2 l2.length c2) := (blk_cell HX21.out 3).trans rfl
        go_wp2_with fail
        refine (HLO2 w21 (Kd.C_below HC2.out HB21.out)).mono ?_
        rintro e w22 ⟨rfl, hb⟩
        have HX22 := Aside0.mk ((hb.block _ (blk_lt HX21.out)).trans HX21.out)
        have HB22 := Aside0.mk (HB21.out.trans (hb.mono HB21.out.size))
        clear k0 k1 k2 k3
        clear hb HX21 HB21
        go_wp2
        go_ret
        exact ⟨by simp, HB22.out⟩
      · have hle : L1.length ≤ L2.length := by omega
        have v1 := fun n => Kd.C_string (c := L1.length) Try.underlying27 Try.underlying5 Try.underlying9 (Kd.C_drewN (Kd.C_take HQ1.out.2 (m := L1.length) (by omega)) n)
        rw [List.length_take, Nat.min_eq_left (by omega)] at v1
        have v2 := fun n => Kd.C_string (c := L2.length) Try.underlying27 Try.underlying5 Try.underlying9 (Kd.C_drewN (Kd.C_take HQ2.out.2 (m := L1.length) (by omega)) n)
        rw [List.length_take, Nat.min_eq_left (by omega)] at v2
        have hneq : L1.take L1.length ≠ L2.take L1.length := fun h => hns (HLAW.out.1 (by rw [Nat.min_eq_left hle]; exact h))
        have q1 : ((strOfNums (L1.take L1.length)).toList == (strOfNums (L2.take L1.length)).toList) = false := beq_eq_false_iff_ne.2 (fun h => hneq (str_inj (fun x hx => HR1.out x (List.mem_of_mem_take hx)) (fun x hx => HR2.out x (List.mem_of_mem_take hx)) h))
        obtain ⟨t1, ht1⟩ : ∃ t1, strOfNums (L1.take L1.length) = t1 := ⟨_, rfl⟩
        obtain ⟨t2, ht2⟩ : ∃ t2, strOfNums (L2.take L1.length) = t2 := ⟨_, rfl⟩
        rw [ht1, ht2] at q1
        simp only [ht1] at v1
        simp only [ht2] at v2
        clear ht1 ht2 hneq
        go_wp2_with fail
        go_quiet (fail)
        have HX20 := Aside0.mk (show (w6.drewN nq).heap[w.heap.size]? = _ from HX6.out)
        have HB20 := Aside0.mk (show Below w.heap.size w (w6.drewN nq) from ⟨HB6.out.os, HB6.out.tape, HB6.out.output, HB6.out.size, HB6.out.block⟩)
        clear v1 v2
        generalize w6.drewN nq = w20 at HX20 HB20 ⊢
        have k0 : w20.cell? ⟨w.heap.size, 0, none⟩ = some (.string s1) := (blk_cell HX20.out 0).trans rfl
        have k1 : w20.cell? ⟨w.heap.size, 1, none⟩ = some (.string s2) := (blk_cell HX20.out 1).trans rfl
        have k2 : w20.cell? ⟨w.heap.size, 2, none⟩ = some (.slice A1 l1.length c1) := (blk_cell HX20.out 2).trans rfl
        have k3 : w20.cell? ⟨w.heap.size, 3, none⟩ = some (.slice A2 l2.length c2) := (blk_cell HX20.out 3).trans rfl
        go_wp2_with fail
        refine (HLO1 w20 (Kd.C_below HC1.out HB20.out)).mono ?_
        rintro e w21 ⟨rfl, hb⟩
        have HX21 := Aside0.mk ((hb.block _ (blk_lt HX20.out)).trans HX20.out)
        have HB21 := Aside0.mk (HB20.out.trans (hb.mono HB20.out.size))
        clear k0 k1 k2 k3
        clear hb HX20 HB20
        have k0 : w21.cell? ⟨w.heap.size, 0, none⟩ = some (.string s1) := (blk_cell HX21.out 0).trans rfl
        have k1 : w21.cell? ⟨w.heap.size, 1, none⟩ = some (.string s2) := (blk_cell HX21.out 1).trans rfl
        have k2 : w21.cell? ⟨w.heap.size, 2, none⟩ = some (.slice A1 l1.length c1) := (blk_cell HX21.out 2).trans rfl
        have k3 : w21.cell? ⟨w.heap.size, 3, none⟩ = some (.slice A2 l2.length c2) := (blk_cell HX21.out 3).trans rfl
        go_wp2_with fail
        refine (HLO2 w21 (Kd.C_below HC2.out HB21.out)).mono ?_
        rintro e w22 ⟨rfl, hb⟩
        have HX22 := Aside0.mk ((hb.block _ (blk_lt HX21.out)).trans HX21.out)
        have HB22 := Aside0.mk (HB21.out.trans (hb.mono HB21.out.size))
        clear k0 k1 k2 k3
        clear hb HX21 HB21
        go_wp2
        go_ret
        exact ⟨by simp, HB22.out⟩
    · have q0 : (s1.toList == s2.toList) = false := beq_eq_false_iff_ne.2 (fun h => hse (by
        cases s1
        cases s2
        simpa [ByteArray.toList_eq] using h))
      clear hse
      have k0 : w5.cell? ⟨w.heap.size, 0, none⟩ = some (.string s1) := (blk_cell HX5.out 0).trans rfl
      have k1 : w5.cell? ⟨w.heap.size, 1, none⟩ = some (.string s2) := (blk_cell HX5.out 1).trans rfl
      rcases Nat.lt_or_ge L2.length L1.length with hll | hll
      · have hle : L2.length ≤ L1.length := by omega
        have v1 := fun n => Kd.C_string (c := L1.length) Try.underlying27 Try.underlying5 Try.underlying9 (Kd.C_drewN (Kd.C_take HQ1.out.2 (m := L2.length) (by omega)) n)
        rw [List.length_take, Nat.min_eq_left (by omega)] at v1
        have v2 := fun n => Kd.C_string (c := L2.length) Try.underlying27 Try.underlying5 Try.underlying9 (Kd.C_drewN (Kd.C_take HQ2.out.2 (m := L2.length) (by omega)) n)
        rw [List.length_take, Nat.min_eq_left (by omega)] at v2
        have hneq : L1.take L2.length ≠ L2.take L2.length := fun h => hns (HLAW.out.1 (by rw [Nat.min_eq_right hle]; exact h))
        have q1 : ((strOfNums (L1.take L2.length)).toList == (strOfNums (L2.take L2.length)).toList) = false := beq_eq_false_iff_ne.2 (fun h => hneq (str_inj (fun x hx => HR1.out x (List.mem_of_mem_take hx)) (fun x hx => HR2.out x (List.mem_of_mem_take hx)) h))
        obtain ⟨t1, ht1⟩ : ∃ t1, strOfNums (L1.take L2.length) = t1 := ⟨_, rfl⟩
        obtain ⟨t2, ht2⟩ : ∃ t2, strOfNums (L2.take L2.length) = t2 := ⟨_, rfl⟩
        rw [ht1, ht2] at q1
        simp only [ht1] at v1
        simp only [ht2] at v2
        clear ht1 ht2 hneq
        go_wp2_with fail
        go_quiet (fail)
        have HX20 := Aside0.mk (show (w5.drewN nq).heap[w.heap.size]? = _ from HX5.out)
        have HB20 := Aside0.mk (show Below w.heap.size w (w5.drewN nq) from ⟨HB5.out.os, HB5.out.tape, HB5.out.output, HB5.out.size, HB5.out.block⟩)
        clear v1 v2
        generalize w5.drewN nq = w20 at HX20 HB20 ⊢
        have k0 : w20.cell? ⟨w.heap.size, 0, none⟩ = some (.string s1) := (blk_cell HX20.out 0).trans rfl
        have k1 : w20.cell? ⟨w.heap.size, 1, none⟩ = some (.string s2) := (blk_cell HX20.out 1).trans rfl
        have k2 : w20.cell? ⟨w.heap.size, 2, none⟩ = some (.slice A1 l1.length c1) := (blk_cell HX20.out 2).trans rfl
        have k3 : w20.cell? ⟨w.heap.size, 3, none⟩ = some (.slice A2 l2.length c2) := (blk_cell HX20.out 3).trans rfl
        go_wp2_with fail
        refine (HLO1 w20 (Kd.C_below HC1.out HB20.out)).mono ?_
        rintro e w21 ⟨rfl, hb⟩
        have HX21 := Aside0.mk ((hb.block _ (blk_lt HX20.out)).trans HX20.out)
        have HB21 := Aside0.mk (HB20.out.trans (hb.mono HB20.out.size))
        clear k0 k1 k2 k3
        clear hb HX20 HB20
        have k0 : w21.cell? ⟨w.heap.size, 0, none⟩ = some (.string s1) := (blk_cell HX21.out 0).trans rfl
        have k1 : w21.cell? ⟨w.heap.size, 1, none⟩ = some (.string s2) := (blk_cell HX21.out 1).trans rfl
        have k2 : w21.cell? ⟨w.heap.size, 2, none⟩ = some (.slice A1 l1.length c1) := (blk_cell HX21.out 2).trans rfl
        have k3 : w21.cell? ⟨w.heap.size, 3, none⟩ = some (.slice A2 l2.length c2) := (blk_cell HX21.out 3).trans rfl
        go_wp2_with fail
        refine (HLO2 w21 (Kd.C_below HC2.out HB21.out)).mono ?_
        rintro e w22 ⟨rfl, hb⟩
        have HX22 := Aside0.mk ((hb.block _ (blk_lt HX21.out)).trans HX21.out)
        have HB22 := Aside0.mk (HB21.out.trans (hb.mono HB21.out.size))
        clear k0 k1 k2 k3
        clear hb HX21 HB21
        go_wp2
        go_ret
        exact ⟨by simp, HB22.out⟩
      · have hle : L1.length ≤ L2.length := by omega
        have v1 := fun n => Kd.C_string (c := L1.length) Try.underlying27 Try.underlying5 Try.underlying9 (Kd.C_drewN (Kd.C_take HQ1.out.2 (m := L1.length) (by omega)) n)
        rw [List.length_take, Nat.min_eq_left (by omega)] at v1
        have v2 := fun n => Kd.C_string (c := L2.length) Try.underlying27 Try.underlying5 Try.underlying9 (Kd.C_drewN (Kd.C_take HQ2.out.2 (m := L1.length) (by omega)) n)
        rw [List.length_take, Nat.min_eq_left (by omega)] at v2
        have hneq : L1.take L1.length ≠ L2.take L1.length := fun h => hns (HLAW.out.1 (by rw [Nat.min_eq_left hle]; exact h))
        have q1 : ((strOfNums (L1.take L1.length)).toList == (strOfNums (L2.take L1.length)).toList) = false := beq_eq_false_iff_ne.2 (fun h => hneq (str_inj (fun x hx => HR1.out x (List.mem_of_mem_take hx)) (fun x hx => HR2.out x (List.mem_of_mem_take hx)) h))
        obtain ⟨t1, ht1⟩ : ∃ t1, strOfNums (L1.take L1.length) = t1 := ⟨_, rfl⟩
        obtain ⟨t2, ht2⟩ : ∃ t2, strOfNums (L2.take L1.length) = t2 := ⟨_, rfl⟩
        rw [ht1, ht2] at q1
        simp only [ht1] at v1
        simp only [ht2] at v2
        clear ht1 ht2 hneq
        go_wp2_with fail
        go_quiet (fail)
        have HX20 := Aside0.mk (show (w5.drewN nq).heap[w.heap.size]? = _ from HX5.out)
        have HB20 := Aside0.mk (show Below w.heap.size w (w5.drewN nq) from ⟨HB5.out.os, HB5.out.tape, HB5.out.output, HB5.out.size, HB5.out.block⟩)
        clear v1 v2
        generalize w5.drewN nq = w20 at HX20 HB20 ⊢
        have k0 : w20.cell? ⟨w.heap.size, 0, none⟩ = some (.string s1) := (blk_cell HX20.out 0).trans rfl
        have k1 : w20.cell? ⟨w.heap.size, 1, none⟩ = some (.string s2) := (blk_cell HX20.out 1).trans rfl
        have k2 : w20.cell? ⟨w.heap.size, 2, none⟩ = some (.slice A1 l1.length c1) := (blk_cell HX20.out 2).trans rfl
        have k3 : w20.cell? ⟨w.heap.size, 3, none⟩ = some (.slice A2 l2.length c2) := (blk_cell HX20.out 3).trans rfl
        go_wp2_with fail
        refine (HLO1 w20 (Kd.C_below HC1.out HB20.out)).mono ?_
        rintro e w21 ⟨rfl, hb⟩
        have HX21 := Aside0.mk ((hb.block _ (blk_lt HX20.out)).trans HX20.out)
        have HB21 := Aside0.mk (HB20.out.trans (hb.mono HB20.out.size))
        clear k0 k1 k2 k3
        clear hb HX20 HB20
        have k0 : w21.cell? ⟨w.heap.size, 0, none⟩ = some (.string s1) := (blk_cell HX21.out 0).trans rfl
        have k1 : w21.cell? ⟨w.heap.size, 1, none⟩ = some (.string s2) := (blk_cell HX21.out 1).trans rfl
        have k2 : w21.cell? ⟨w.heap.size, 2, none⟩ = some (.slice A1 l1.length c1) := (blk_cell HX21.out 2).trans rfl
        have k3 : w21.cell? ⟨w.heap.size, 3, none⟩ = some (.slice A2 l2.length c2) := (blk_cell HX21.out 3).trans rfl
        go_wp2_with fail
        refine (HLO2 w21 (Kd.C_below HC2.out HB21.out)).mono ?_
        rintro e w22 ⟨rfl, hb⟩
        have HX22 := Aside0.mk ((hb.block _ (blk_lt HX21.out)).trans HX21.out)
        have HB22 := Aside0.mk (HB21.out.trans (hb.mono HB21.out.size))
        clear k0 k1 k2 k3
        clear hb HX21 HB21
        go_wp2
        go_ret
        exact ⟨by simp, HB22.out⟩
end Go.Proofs.Ytdhdofkpgaibiaa.Ex
namespace Go.Proofs.Ytdhdofkpgaibiaa.stampUnlike
open Go.ChangeShapes Go.WideShapes Go.ChangeAt Go.RowKit Go.Joins
open Go.Proofs.YtdhdofkpgaibiaaW
set_option linter.unusedVariables false
theorem own : ownKnob Try.prog.godebug = none := by kernel_rfl
theorem laidOut : laidOutB Try.prog = true := by kernel_rfl
theorem walk (w : World) (s1 s2 : ByteArray) (A1 : Option Addr) (c1 : Nat) (l1 : List PStampTells.S89) (A2 : Option Addr) (c2 : Nat) (l2 : List PStampTells.S89) (hC1 : PrintWords.Kd.C PStampTells.k89 w A1 l1.length l1) (hc1 : l1.length ≤ c1) (hC2 : PrintWords.Kd.C PStampTells.k89 w A2 l2.length l2) (hc2 : l2.length ≤ c2) (hz1 : ∀ t ∈ l1, t.f0.size ≤ 1048576) (hz2 : ∀ t ∈ l2, t.f0.size ≤ 1048576) :
    Calls Try.prog 5 #[.agg #[.string s1, .string s2, .slice A1 l1.length c1, .slice A2 l2.length c2]] w fun e w' => e = .returned (.bool true) ∧ Below w.heap.size w w' := by
  by_cases h1 : Ex.errN s1 l1 = 0
  · by_cases h2 : Ex.errN s2 l2 = 0
    · exact Ex.unlike_both w s1 s2 A1 c1 l1 A2 c2 l2 hC1 hc1 hC2 hc2 hz1 hz2 h1 h2
    · exact Ex.unlike_refused w s1 s2 A1 c1 l1 A2 c2 l2 hC1 hc1 hC2 hc2 hz1 hz2 (Or.inr h2)
  · exact Ex.unlike_refused w s1 s2 A1 c1 l1 A2 c2 l2 hC1 hc1 hC2 hc2 hz1 hz2 (Or.inl h1)
set_option maxRecDepth 100000 in
theorem lifted (os : Os) (started : os.Started) (H : Type) (enc : TypeId × Value → H) (F : Stop.Interp) :
    ReturnsInHanded {} Try.checked os 5 .any ((Rows.OpenSpec.upto Rows.stampUnlikeSpec).pre6 enc Try.prog Try.f5 Rows.stampUnlikeUptoRow.domain false) (((Rows.OpenSpec.upto Rows.stampUnlikeSpec).at F).post enc Try.prog Try.f5 false true false false) := by
  refine returnsInHanded_of_cond_sized (C := Try.checked) (s := Rows.OpenSpec.upto Rows.stampUnlikeSpec) (k := Rows.uptoSmall) rfl own started (by kernel_rfl) Try.func5
    (OpenSpec.witness (enc := enc) (C := Try.checked) (s := Rows.OpenSpec.upto Rows.stampUnlikeSpec) (k := Rows.uptoSmall) rfl false ⟨#[], #[.agg #[.string .empty, .string .empty, .slice none 0 0, .slice none 0 0]], []⟩ 8 (by kernel_rfl) (by kernel_rfl) (by kernel_rfl)
      (x := ([.agg [.lit (.string []), .lit (.string []), .nil, .nil]], [], [])) (by kernel_rfl) rfl (by kernel_rfl)) ?_
  intro W base args ds gs before hval0 hW hcnd hk hsz0 _
  have hval : ∀ (j : Nat) t v, Try.f5.params[j]? = some t → args[j]? = some v → Value.okWide Try.prog W .any base t v := hval0
  have hW' := hW
  obtain ⟨p, q, hA0, hV, rfl, hfz, hnd⟩ := hW
  have hA : DataW.TrodAll enc Try.prog W 0 (fun _ => true) true Try.f5.params.toList args.toList ds p := hA0
  have hsz : (DataW.weightsEach Try.prog (Try.f5.params.toList ++ DataSpec.varTypes Try.prog Rows.stampUnlikeSpec.plain) (ds ++ gs)).all (· ≤ reachBytes) = true := hsz0
  rw [Try.params5] at hA hval hsz
  obtain ⟨v0, vs0, d0, ds0, p0, q0, hargs, rfl, rfl, h0, r0⟩ := trodAll_cons hA
  obtain ⟨rfl, rfl, rfl⟩ := trodAll_nil r0
  obtain rfl : args = #[v0] := by cases args; simp_all
  obtain ⟨rfl, rfl⟩ := trodVars_none hV
  have k0 := h0
  have lt0 : ∀ x ∈ p0, x.block < W.heap.size := by obtain ⟨m, hm⟩ := k0; exact DataW.trod_lt m _ _ _ hm
  have w0 : ∀ m ∈ d0.weights Try.prog 60, m ≤ reachBytes := fun m hm => by
    have := List.all_eq_true.1 hsz m (DataW.weights_mem_each (j := 0) (t := 60) rfl rfl m hm)
    simpa using this
  have hbk : Rows.uptoBulk d0 ≤ 1048576 := by
    have h : Rows.uptoBulkAll ([d0] ++ []) ≤ 1048576 := of_decide_eq_true hk
    simp only [List.append_nil, Rows.uptoBulkAll] at h
    omega
  obtain ⟨s1, s2, A1, l1, c1, A2, l2, c2, rfl, hC1, hc1, hC2, hc2, hz1, hz2⟩ := StS.two_open (fun _ => rfl) 1048576 (hval 0 60 v0 rfl rfl) h0 w0 hbk
  clear hA0 hval0 hsz0 hsz
  refine (walk W s1 s2 A1 c1 l1 A2 c2 l2 hC1 hc1 hC2 hc2 hz1 hz2).mono fun e W' ⟨he, bel⟩ => ?_
  subst he
  exact ⟨_, rfl, _, _, _, [], _, [], hW', trodAll_mk1 (shut_bool Try.underlying4 _), (trodAll_cons_mk (Below.trod laidOut (by kernel_rfl) (of_decide_eq_true (by kernel_rfl)) k0 bel lt0) trodAll_mk0), rfl, bel.frame _, fun h => by cases h⟩
theorem over : Rows.stampUnlikeUptoRow.holds Try.pinned (Rows.OpenSpec.upto Rows.stampUnlikeSpec) :=
  OpenClaim.holds_of_cond 5 Try.f5 rfl rfl rfl rfl rfl rfl rfl ⟨rfl, rfl, rfl, rfl, rfl⟩ rfl rfl rfl rfl rfl (by kernel_rfl) Try.func5 (by kernel_rfl)
    (of_decide_eq_true (by kernel_rfl)) (by unfold Func.isWrapper; first | (rw [if_pos (by decide +kernel)]; kernel_rfl) | (rw [if_neg (by decide +kernel)]; exact ⟨rfl, rfl⟩))
    (fun os started H enc _ F => lifted os started H enc F)
theorem proved : Rows.StampUnlikeUptoSaid := over
#print axioms proved
end Go.Proofs.Ytdhdofkpgaibiaa.stampUnlike
namespace Go.Proofs.Ytdhdofkpgaibiaa
/-- The row, under a short name, for the claim. -/
theorem stampUnlike_holds : Rows.StampUnlikeUptoSaid := stampUnlike.proved
end Go.Proofs.Ytdhdofkpgaibiaa
