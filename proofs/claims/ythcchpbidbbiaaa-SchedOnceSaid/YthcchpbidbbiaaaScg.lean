/- What the laws have in common. -/
import Derived.Test.YthcchpbidbbiaaaScf
import Derived.Test.YthcchpbidbbiaaaOSchedSidex3
import Derived.WalkKit
import Derived.ProofKit
import Derived.OpenShut
import Derived.ShutString
import Derived.ChangeOld
import Derived.Below
import Derived.Deep.Strs
import Derived.Lib.SmallJoins
namespace Go.Proofs.Ythcchpbidbbiaaa.Sc
open Go.RowKit Go.Proofs.YthcchpbidbbiaaaW.PrintWords Go.Proofs.YthcchpbidbbiaaaW.PrintLast Go.Proofs.YthcchpbidbbiaaaW.PrintMore Go.Proofs.Ythcchpbidbbiaaa.PSchedSide
set_option linter.unusedVariables false
set_option linter.unusedSimpArgs false
theorem wrap_in {x : Int} (h0 : -9223372036854775808 ≤ x) (h1 : x ≤ 9223372036854775807) : wrap64 x = x := by unfold wrap64; omega
theorem pick_some_f (c : Int) (n : Int) (hn : 0 < n) (hn' : n ≤ 1000000) : ∃ r, organonlaw18_pick.f c n = some r ∧ 0 ≤ r ∧ r < n := by
  have hb := tmod_bounds c n.toNat (by omega)
  have e : ((n.toNat : Nat) : Int) = n := by omega
  rw [e] at hb
  unfold organonlaw18_pick.f
  rw [if_neg (by omega)]
  by_cases h : Int.tmod c n < 0
  · rw [if_pos h, wrap_in (by omega) (by omega)]
    exact ⟨_, rfl, by omega, by omega⟩
  · rw [if_neg h]
    exact ⟨_, rfl, by omega, by omega⟩
theorem plain_l0 (x0 x1 x2 : Int) (l3 l4 : List Int) (x5 p0 p1 p2 : Int) (d : Nat) : ∀ (k : Nat) (acc : List Int) (i : Int), 0 ≤ i → i ≤ 60 → (acc.length : Int) = i → 60 - i = d → d < k → (∀ j ∈ acc, 0 ≤ j ∧ j ≤ 60) →
    ∃ xs, organonlaw18_plain.l0 k acc i x0 x1 x2 l3 l4 x5 p0 p1 p2 = some (p0, p1, p2, xs) ∧ xs.length ≤ 60 ∧ ∀ j ∈ xs, 0 ≤ j ∧ j ≤ 60 := by
  induction d with
  | zero =>
    intro k acc i h0 h1 h2 h3 hk ha
    obtain ⟨k, rfl⟩ : ∃ m, k = m + 1 := ⟨k - 1, by omega⟩
    refine ⟨acc, ?_, by omega, ha⟩
    simp only [organonlaw18_plain.l0]
    split
    · rw [if_neg (by omega)]
    · rfl
  | succ d ih =>
    intro k acc i h0 h1 h2 h3 hk ha
    obtain ⟨k, rfl⟩ : ∃ m, k = m + 1 := ⟨k - 1, by omega⟩
    by_cases hlt : i < (l3.length : Int)
    · obtain ⟨r, hr, hr0, hr1⟩ := pick_some_f (rd l3 i) 61 (by decide) (by decide)
      obtain ⟨xs, hxs, hl, hj⟩ := ih k (acc ++ [r]) (i + 1) (by omega) (by omega) (by simp; omega) (by omega) (by omega) (by
        intro j hj
        rcases List.mem_append.1 hj with h | h
        · exact ha j h
        · have : j = r := by simpa using h
          omega)
      refine ⟨xs, ?_, hl, hj⟩
      simp only [organonlaw18_plain.l0]
      rw [if_pos hlt, if_pos (by omega), if_pos h0, hr]
      simp only [Option.bind_some]
      rw [if_pos (by omega), wrap_in (by omega) (by omega)]
      exact hxs
    · refine ⟨acc, ?_, by omega, ha⟩
      simp only [organonlaw18_plain.l0]
      rw [if_neg hlt]
/-- The raw values of a law's Work. -/
structure Raw where
  x0 : Int
  x1 : Int
  x2 : Int
  A3 : Option Addr
  l3 : List Int
  c3 : Nat
  A4 : Option Addr
  l4 : List Int
  c4 : Nat
  x5 : Int
def Raw.cs (X : Raw) : Array Value := #[.int .i64 X.x0, .int .i64 X.x1, .int .i64 X.x2, .slice X.A3 X.l3.length X.c3, .slice X.A4 X.l4.length X.c4, .int .i64 X.x5]
structure Raw.In (X : Raw) (w : World) : Prop where
  h3 : Kd.C (Kd.int .i64) w X.A3 X.l3.length X.l3
  k3 : X.l3.length ≤ X.c3
  h4 : Kd.C (Kd.int .i64) w X.A4 X.l4.length X.l4
  k4 : X.l4.length ≤ X.c4
theorem Raw.In.below {X : Raw} {w W : World} (h : X.In w) (hb : Below w.heap.size w W) : X.In W := ⟨Kd.C_below h.h3 hb, h.k3, Kd.C_below h.h4 hb, h.k4⟩
theorem plain_calls (X : Raw) (w : World) (h : X.In w) : Calls Try.prog 16 #[.agg X.cs] w fun e w' => ∃ pw pj pr v xs, e = .returned (.tuple #[poolV pw pj pr, v]) ∧ PoolOk pw pj pr ∧ xs.length ≤ 60 ∧ (∀ j ∈ xs, 0 ≤ j ∧ j ≤ 60) ∧ Kd.R (Kd.int .i64) 3 w' w.heap.size (fun _ => True) v xs ∧ Below w.heap.size w w' := by
  obtain ⟨r0, h0, a0, b0⟩ := pick_some_f X.x0 8 (by decide) (by decide)
  obtain ⟨r1, h1, a1, b1⟩ := pick_some_f X.x1 8 (by decide) (by decide)
  obtain ⟨r2, h2, a2, b2⟩ := pick_some_f X.x2 8 (by decide) (by decide)
  obtain ⟨xs, hxs, hl, hj⟩ := plain_l0 X.x0 X.x1 X.x2 X.l3 X.l4 X.x5 (1 + r0) (1 + r1) (1 + r2) 60 61 [] 0 (by omega) (by omega) rfl (by omega) (by omega) (by simp)
  have hf : organonlaw18_plain.f 61 X.x0 X.x1 X.x2 X.l3 X.l4 X.x5 = some (1 + r0, 1 + r1, 1 + r2, xs) := by
    unfold organonlaw18_plain.f
    rw [h0]
    simp only [Option.bind_some]
    rw [h1]
    simp only [Option.bind_some]
    rw [h2]
    simp only [Option.bind_some]
    rw [wrap_in (by omega) (by omega), wrap_in (by omega) (by omega), wrap_in (by omega) (by omega)]
    exact hxs
  refine (organonlaw18_plain.calls 61 X.x0 X.x1 X.x2 X.A3 X.c3 X.l3 X.A4 X.c4 X.l4 X.x5 _ _ _ xs w h.h3 h.k3 h.h4 h.k4 hf).mono ?_
  rintro e w' ⟨v, rfl, hr, hb⟩
  exact ⟨1 + r0, 1 + r1, 1 + r2, v, xs, rfl, by unfold PoolOk; omega, hl, hj, hr, hb⟩
theorem at_calls (X : Raw) (i : Int) (w : World) (h : X.In w) (hi : 0 ≤ i) : Calls Try.prog 20 #[.agg X.cs, .int .i64 i] w fun e w' => ∃ r : Int, e = .returned (.int .i64 r) ∧ Below w.heap.size w w' := by
  have hf : ∃ r, organonlaw18_at.f X.x0 X.x1 X.x2 X.l3 X.l4 X.x5 i = some r := by
    unfold organonlaw18_at.f
    by_cases h0 : (X.l4.length : Int) = 0
    · rw [if_pos h0]; exact ⟨_, rfl⟩
    · have hb := tmod_bounds i X.l4.length (by omega)
      have hn : 0 ≤ Int.tmod i (X.l4.length : Int) := Int.tmod_nonneg _ hi
      rw [if_neg h0, if_pos hn, if_pos hb.2]
      exact ⟨_, rfl⟩
  obtain ⟨r, hf⟩ := hf
  refine (organonlaw18_at.calls X.x0 X.x1 X.x2 X.A3 X.c3 X.l3 X.A4 X.c4 X.l4 X.x5 i r w h.h3 h.k3 h.h4 h.k4 hf).mono ?_
  rintro e w' ⟨rfl, hb⟩
  exact ⟨r, rfl, hb⟩
theorem bound_l0 (xs : List Int) (hj : ∀ j ∈ xs, 0 ≤ j ∧ j ≤ 60) (hl : xs.length ≤ 60) (d : Nat) : ∀ (k : Nat) (s : Int) (i : Nat), i ≤ xs.length → xs.length - i = d → d < k → 0 ≤ s → s ≤ 1000 + 60 * i → organonlaw18_bound.l0 k xs s i = some (s + (xs.drop i).sum) := by
  induction d with
  | zero =>
    intro k s i h0 h1 hk _ _
    obtain ⟨k, rfl⟩ : ∃ m, k = m + 1 := ⟨k - 1, by omega⟩
    have : i = xs.length := by omega
    subst this
    simp only [organonlaw18_bound.l0]
    rw [if_neg (by omega), List.drop_length]
    simp
  | succ d ih =>
    intro k s i h0 h1 hk hs0 hs1
    obtain ⟨k, rfl⟩ : ∃ m, k = m + 1 := ⟨k - 1, by omega⟩
    have hlt : i < xs.length := by omega
    have hx := hj (rd xs i) (rd_mem (by omega) (by omega))
    simp only [organonlaw18_bound.l0]
    rw [if_pos (by omega), if_pos (by omega), wrap_in (x := s + rd xs i) (by omega) (by omega), wrap_in (by omega) (by omega)]
    have := ih k (s + rd xs i) (i + 1) (by omega) (by omega) (by omega) (by omega) (by omega)
    rw [show ((i : Int) + 1) = ((i + 1 : Nat) : Int) by omega, this, List.drop_eq_getElem_cons hlt, List.sum_cons]
    have e : rd xs i = xs[i] := by simp [rd, hlt]
    rw [e]
    congr 1
    omega
theorem lawbound_calls (pw pj pr : Int) (A : Option Addr) (c : Nat) (xs : List Int) (w : World) (hp : PoolOk pw pj pr) (hl : xs.length ≤ 60) (hj : ∀ j ∈ xs, 0 ≤ j ∧ j ≤ 60) (hC : Kd.C (Kd.int .i64) w A xs.length xs) (hc : xs.length ≤ c) (m : Mach) (hm : m.jobs = xs) (hw : (m.workers.length : Int) = pw) :
    Calls Try.prog 25 #[poolV pw pj pr, .slice A xs.length c] w fun e w' => e = .returned (.int .i64 (boundOf m)) ∧ Below w.heap.size w w' := by
  obtain ⟨⟨h1, h2⟩, _⟩ := hp
  have hf : organonlaw18_bound.f 61 pw pj pr xs = some (boundOf m) := by
    unfold organonlaw18_bound.f
    rw [wrap_in (x := 4 * (xs.length : Int)) (by omega) (by omega), wrap_in (x := 4 * (xs.length : Int) + pw) (by omega) (by omega), wrap_in (by omega) (by omega)]
    have := bound_l0 xs hj hl xs.length 61 (4 * (xs.length : Int) + pw + 2) 0 (by omega) (by omega) (by omega) (by omega) (by omega)
    have e : ((0 : Nat) : Int) = 0 := rfl
    rw [e] at this
    rw [this]
    unfold boundOf
    rw [hm, hw]
    simp
  exact organonlaw18_bound.calls 61 pw pj pr A c xs (boundOf m) w hC hc hf
end Go.Proofs.Ythcchpbidbbiaaa.Sc
namespace Go.Proofs.Ythcchpbidbbiaaa.Sc
open Go.RowKit Go.Proofs.YthcchpbidbbiaaaW.PrintWords Go.Proofs.YthcchpbidbbiaaaW.PrintLast Go.Proofs.YthcchpbidbbiaaaW.PrintMore Go.Proofs.Ythcchpbidbbiaaa.PSchedSide
set_option linter.unusedVariables false
set_option linter.unusedSimpArgs false
def Nb (b1 b4 : Nat) (v : Value) (M : Nat → Prop) (k : Nat) : Prop := k = b1 ∨ k = b4 ∨ some k = v.ownBlock ∨ M k
abbrev wcells (X : Raw) : Array Value := #[.int .i64 X.x0, .int .i64 X.x1, .int .i64 X.x2, .slice X.A3 X.l3.length X.c3, .slice X.A4 X.l4.length X.c4, .int .i64 X.x5]
structure Law (w W : World) (M : Nat → Prop) (X : Raw) (b1 b4 : Nat) (pw pj pr : Int) (v : Value) (xs : List Int) (g : Nat) (m : Mach) : Prop where
  run : Run w W (Nb b1 b4 v M) g m
  wb : W.heap[b1]? = some (.cells (wcells X) 37 (0, 0))
  pb : W.heap[b4]? = some (.cells #[.int .i64 pw, .int .i64 pj, .int .i64 pr] 23 (0, 0))
  js : Own (Kd.int .i64) 3 W v xs
  eq : m.jobs = xs ∧ m.pw = pw
section
variable {w W W' : World} {M : Nat → Prop} {X : Raw} {b1 b4 g : Nat} {pw pj pr : Int} {v : Value} {xs : List Int} {m m' : Mach}
theorem Law.pass (h : Law w W M X b1 b4 pw pj pr v xs g m) (hb : Below W.heap.size W W') : Law w W' M X b1 b4 pw pj pr v xs g m :=
  ⟨h.run.pass hb, (hb.block _ (blk_lt h.wb)).trans h.wb, (hb.block _ (blk_lt h.pb)).trans h.pb, h.js.below hb, h.eq⟩
theorem Law.held (h : Law w W M X b1 b4 pw pj pr v xs g m) (hr : Run w W' (Nb b1 b4 v M) g m') (hh : Held W W' (Nb b1 b4 v M)) (he : m'.jobs = m.jobs ∧ m'.pw = m.pw) : Law w W' M X b1 b4 pw pj pr v xs g m' :=
  ⟨hr, hh.blk (.inl rfl) h.wb, hh.blk (.inr (.inl rfl)) h.pb, h.js.at_ (fun k hk _ => hh.2 k (.inr (.inr (.inl hk)))), he.1.trans h.eq.1, he.2.trans h.eq.2⟩
/-- New blocks of the law's own. -/
theorem Law.add (h : Law w W M X b1 b4 pw pj pr v xs g m) (hb : Below W.heap.size W W') {M' : Nat → Prop} (hM : ∀ k, M' k → W.heap.size ≤ k ∧ k < W'.heap.size) : Law w W' (fun k => M k ∨ M' k) X b1 b4 pw pj pr v xs g m := by
  refine ⟨Run.less (h.run.add hb hM) ?_, (h.pass hb).wb, (h.pass hb).pb, (h.pass hb).js, h.eq⟩
  rintro k (hk | hk | hk | hk | hk)
  · exact .inl (.inl hk)
  · exact .inl (.inr (.inl hk))
  · exact .inl (.inr (.inr (.inl hk)))
  · exact .inl (.inr (.inr (.inr hk)))
  · exact .inr hk
theorem Law.less (h : Law w W M X b1 b4 pw pj pr v xs g m) {M' : Nat → Prop} (hM : ∀ k, M' k → M k) : Law w W M' X b1 b4 pw pj pr v xs g m := by
  refine ⟨h.run.less ?_, h.wb, h.pb, h.js, h.eq⟩
  rintro k (hk | hk | hk | hk)
  · exact .inl hk
  · exact .inr (.inl hk)
  · exact .inr (.inr (.inl hk))
  · exact .inr (.inr (.inr (hM k hk)))
/-- The law writes what is M's. -/
theorem Law.write (h : Law w W M X b1 b4 pw pj pr v xs g m) (hk : Kept W W' M) (hn : ∀ k, M k → k ≠ b1 ∧ k ≠ b4 ∧ some k ≠ v.ownBlock) (ho : W'.os = W.os) (ht : W'.tape = W.tape) (hp : W'.output = W.output) : Law w W' M X b1 b4 pw pj pr v xs g m := by
  refine ⟨h.run.write (hk.mono (fun k hk => .inr (.inr (.inr hk)))) ho ht hp, ?_, ?_, ?_, h.eq⟩
  · exact (hk.2 b1 (blk_lt h.wb) (fun hm => (hn _ hm).1 rfl)).trans h.wb
  · exact (hk.2 b4 (blk_lt h.pb) (fun hm => (hn _ hm).2.1 rfl)).trans h.pb
  · exact h.js.at_ (fun k hk' hl => hk.2 k hl (fun hm => (hn _ hm).2.2 hk'))
/-- A new block becomes the law's own. -/
theorem Law.box (h : Law w W (fun _ => False) X b1 b4 pw pj pr v xs g m) (o : Obj) : Law w (W.alloc o) (fun k => k = W.heap.size) X b1 b4 pw pj pr v xs g m :=
  (h.add (below_alloc (Below.refl _ _) o) (M' := fun k => k = W.heap.size) (by rintro k rfl; simp)).less (fun k hk => .inr hk)
theorem Law.box2 (h : Law w W M X b1 b4 pw pj pr v xs g m) (o : Obj) : Law w (W.alloc o) (fun k => M k ∨ k = W.heap.size) X b1 b4 pw pj pr v xs g m :=
  h.add (below_alloc (Below.refl _ _) o) (M' := fun k => k = W.heap.size) (by rintro k rfl; simp)
theorem Law.alloc (h : Law w W M X b1 b4 pw pj pr v xs g m) (o : Obj) : Law w (W.alloc o) M X b1 b4 pw pj pr v xs g m := h.pass (below_alloc (Below.refl _ _) o)
theorem own_far (h : Law w W M X b1 b4 pw pj pr v xs g m) : ∀ k, k = W.heap.size → k ≠ b1 ∧ k ≠ b4 ∧ some k ≠ v.ownBlock := by
  rintro k rfl
  refine ⟨fun e => ?_, fun e => ?_, fun e => ?_⟩
  · have := blk_lt h.wb; omega
  · have := blk_lt h.pb; omega
  · have := h.js.lt _ e; omega
theorem addr_add0 (b j : Nat) : (⟨b, 0, none⟩ : Addr).add j = ⟨b, j, none⟩ := by
  unfold Addr.add
  split <;> simp_all
theorem Law.mlt (h : Law w W M X b1 b4 pw pj pr v xs g m) : ∀ k, M k → w.heap.size ≤ k ∧ k < W.heap.size := fun k hk => h.run.nlt k (.inr (.inr (.inr hk)))
/-- M's blocks stay through a move. -/
theorem Held.own {M : Nat → Prop} (h : Held W W' (Nb b1 b4 v M)) {k : Nat} {o : Obj} (hk : M k) (hb : W.heap[k]? = some o) : W'.heap[k]? = some o := h.blk (.inr (.inr (.inr hk))) hb
theorem step_eq {m : Mach} {x : S64} (hO : Ok m) (hx : x ∈ mvs m) : (step m x).jobs = m.jobs ∧ (step m x).pw = m.pw := by
  have h := kind_bound (kind_of_mem hO hx)
  exact ⟨h.2.1, h.2.2.2.2.1⟩
theorem l_new (X : Raw) (A : Option Addr) (c : Nat) (hb : Below w.heap.size w W) (hp : PoolOk pw pj pr) (hl : xs.length ≤ 60) (hj : ∀ j ∈ xs, 0 ≤ j ∧ j ≤ 60) (hw : W.heap[b1]? = some (.cells (wcells X) 37 (0, 0))) (h1 : w.heap.size ≤ b1) (hq : W.heap[b4]? = some (.cells #[.int .i64 pw, .int .i64 pj, .int .i64 pr] 23 (0, 0))) (h4 : w.heap.size ≤ b4) (hv : Own (Kd.int .i64) 3 W (.slice A xs.length c) xs) (hv0 : ∀ k, some k = (Value.slice A xs.length c).ownBlock → w.heap.size ≤ k) :
    Calls Try.prog 15 #[.agg #[.int .i64 pw, .int .i64 pj, .int .i64 pr], .slice A xs.length c] W fun e w' => ∃ g, e = .returned (.tuple #[ptr g, .int .i64 0, .int .i64 0]) ∧ Law w w' (fun _ => False) X b1 b4 pw pj pr (.slice A xs.length c) xs g (newM pw pj pr xs pw.toNat) ∧ Below W.heap.size W w' := by
  have hN : ∀ k, Nb b1 b4 (.slice A xs.length c) (fun _ => False) k → w.heap.size ≤ k ∧ k < W.heap.size := by
    rintro k (hk | hk | hk | hk)
    · rw [hk]; exact ⟨h1, blk_lt hw⟩
    · rw [hk]; exact ⟨h4, blk_lt hq⟩
    · exact ⟨hv0 k hk, hv.lt k hk⟩
    · exact hk.elim
  refine (r_new (w0 := w) (N := Nb b1 b4 (.slice A xs.length c) (fun _ => False)) pw pj pr A c xs hb hN hp (Kd.R_reads' hv).2.2 (by omega) (fun j hj' => by rw [rd_take hj']; have := hj _ (List.getElem_mem hj'); exact ⟨by omega, by omega⟩)).mono ?_
  rintro e w' ⟨g, rfl, hr, hb', hg⟩
  exact ⟨g, rfl, ⟨hr, (hb'.block _ (blk_lt hw)).trans hw, (hb'.block _ (blk_lt hq)).trans hq, hv.below hb', rfl, rfl⟩, hb'⟩
theorem l_newM (X : Raw) (A : Option Addr) (c : Nat) (M : Nat → Prop) (hb : Below w.heap.size w W) (hM : ∀ k, M k → w.heap.size ≤ k ∧ k < W.heap.size) (hp : PoolOk pw pj pr) (hl : xs.length ≤ 60) (hj : ∀ j ∈ xs, 0 ≤ j ∧ j ≤ 60) (hw : W.heap[b1]? = some (.cells (wcells X) 37 (0, 0))) (h1 : w.heap.size ≤ b1) (hq : W.heap[b4]? = some (.cells #[.int .i64 pw, .int .i64 pj, .int .i64 pr] 23 (0, 0))) (h4 : w.heap.size ≤ b4) (hv : Own (Kd.int .i64) 3 W (.slice A xs.length c) xs) (hv0 : ∀ k, some k = (Value.slice A xs.length c).ownBlock → w.heap.size ≤ k) :
    Calls Try.prog 15 #[.agg #[.int .i64 pw, .int .i64 pj, .int .i64 pr], .slice A xs.length c] W fun e w' => ∃ g, e = .returned (.tuple #[ptr g, .int .i64 0, .int .i64 0]) ∧ Law w w' M X b1 b4 pw pj pr (.slice A xs.length c) xs g (newM pw pj pr xs pw.toNat) ∧ Below W.heap.size W w' := by
  have hN : ∀ k, Nb b1 b4 (.slice A xs.length c) M k → w.heap.size ≤ k ∧ k < W.heap.size := by
    rintro k (hk | hk | hk | hk)
    · rw [hk]; exact ⟨h1, blk_lt hw⟩
    · rw [hk]; exact ⟨h4, blk_lt hq⟩
    · exact ⟨hv0 k hk, hv.lt k hk⟩
    · exact hM k hk
  refine (r_new (w0 := w) (N := Nb b1 b4 (.slice A xs.length c) M) pw pj pr A c xs hb hN hp (Kd.R_reads' hv).2.2 (by omega) (fun j hj' => by rw [rd_take hj']; have := hj _ (List.getElem_mem hj'); exact ⟨by omega, by omega⟩)).mono ?_
  rintro e w' ⟨g, rfl, hr, hb', hg⟩
  exact ⟨g, rfl, ⟨hr, (hb'.block _ (blk_lt hw)).trans hw, (hb'.block _ (blk_lt hq)).trans hq, hv.below hb', rfl, rfl⟩, hb'⟩
theorem l_plain (X : Raw) (hX : X.In W) : Calls Try.prog 16 #[.agg #[.int .i64 X.x0, .int .i64 X.x1, .int .i64 X.x2, .slice X.A3 X.l3.length X.c3, .slice X.A4 X.l4.length X.c4, .int .i64 X.x5]] W fun e w' => ∃ pw pj pr A c xs, e = .returned (.tuple #[.agg #[.int .i64 pw, .int .i64 pj, .int .i64 pr], .slice A xs.length c]) ∧ PoolOk pw pj pr ∧ xs.length ≤ 60 ∧ (∀ j ∈ xs, 0 ≤ j ∧ j ≤ 60) ∧ Kd.R (Kd.int .i64) 3 w' W.heap.size (fun _ => True) (.slice A xs.length c) xs ∧ Below W.heap.size W w' := by
  refine (plain_calls X W hX).mono ?_
  rintro e w' ⟨pw, pj, pr, v, xs, rfl, h1, h2, h3, h4, h5⟩
  obtain ⟨A, c, hv⟩ := Kd.R_slice h4
  subst hv
  exact ⟨pw, pj, pr, A, c, xs, rfl, h1, h2, h3, h4, h5⟩
theorem l_at (h : Law w W M X b1 b4 pw pj pr v xs g m) (hX : X.In w) (i : Int) (hi : 0 ≤ i) : Calls Try.prog 20 #[.agg #[.int .i64 X.x0, .int .i64 X.x1, .int .i64 X.x2, .slice X.A3 X.l3.length X.c3, .slice X.A4 X.l4.length X.c4, .int .i64 X.x5], .int .i64 i] W fun e w' => ∃ r : Int, e = .returned (.int .i64 r) ∧ Law w w' M X b1 b4 pw pj pr v xs g m ∧ Below W.heap.size W w' := by
  refine (at_calls X i W (hX.below h.run.bel) hi).mono ?_
  rintro e w' ⟨r, rfl, hb⟩
  exact ⟨r, rfl, h.pass hb, hb⟩
theorem l_bound {A : Option Addr} {c : Nat} (h : Law w W M X b1 b4 pw pj pr (.slice A xs.length c) xs g m) (hp : PoolOk pw pj pr) (hl : xs.length ≤ 60) (hj : ∀ j ∈ xs, 0 ≤ j ∧ j ≤ 60) : Calls Try.prog 25 #[.agg #[.int .i64 pw, .int .i64 pj, .int .i64 pr], .slice A xs.length c] W fun e w' => e = .returned (.int .i64 (boundOf m)) ∧ Law w w' M X b1 b4 pw pj pr (.slice A xs.length c) xs g m ∧ Below W.heap.size W w' := by
  have hr := Kd.R_reads' h.js
  refine (lawbound_calls pw pj pr A c xs W hp hl hj hr.2.2 hr.2.1 m h.eq.1 (by rw [h.run.inv.ok.nw, h.eq.2])).mono ?_
  rintro e w' ⟨rfl, hb⟩
  exact ⟨rfl, h.pass hb, hb⟩
theorem l_pick (h : Law w W M X b1 b4 pw pj pr v xs g m) (k : Int) (hx : mvs m ≠ []) : Calls Try.prog 19 #[ptr g, .int .i64 k] W fun e w' => e = .returned (.tuple #[(evOf m (picked m k)).v, .int .i64 0]) ∧ Law w w' M X b1 b4 pw pj pr v xs g (step m (picked m k)) ∧ Held W w' (Nb b1 b4 v M) := by
  refine (r_pick h.run k hx).mono ?_
  rintro e w' ⟨rfl, hr, hh⟩
  exact ⟨rfl, h.held hr hh (step_eq h.run.inv.ok (picked_mem k hx)), hh⟩
theorem l_pick_no (h : Law w W M X b1 b4 pw pj pr v xs g m) (k : Int) (hx : mvs m = []) : Calls Try.prog 19 #[ptr g, .int .i64 k] W fun e w' => e = .returned (.tuple #[ev 0 0 0 0, .int .i64 180]) ∧ Law w w' M X b1 b4 pw pj pr v xs g m ∧ Below W.heap.size W w' := by
  refine (r_pick_no h.run k hx).mono ?_
  rintro e w' ⟨rfl, _, hb⟩
  exact ⟨rfl, h.pass hb, hb⟩
/-- The same, the event's parts in sight. -/
theorem l_pickv (h : Law w W M X b1 b4 pw pj pr v xs g m) (k : Int) (hx : mvs m ≠ []) : Calls Try.prog 19 #[ptr g, .int .i64 k] W fun e w' => ∃ z0 z1 z2 z3, e = .returned (.tuple #[.agg #[.int .i64 z0, .int .i64 z1, .int .i64 z2, .int .i64 z3], .int .i64 0]) ∧ evOf m (picked m k) = ⟨z0, z1, z2, z3⟩ ∧ Law w w' M X b1 b4 pw pj pr v xs g (step m (picked m k)) ∧ Held W w' (Nb b1 b4 v M) := by
  refine (l_pick h k hx).mono ?_
  rintro e w' ⟨rfl, hr, hh⟩
  exact ⟨_, _, _, _, rfl, rfl, hr, hh⟩
theorem l_takev (h : Law w W M X b1 b4 pw pj pr v xs g m) (x : S64) (hx : x ∈ mvs m) : Calls Try.prog 30 #[ptr g, .agg #[.int .i64 x.f0, .int .i64 x.f1]] W fun e w' => ∃ z0 z1 z2 z3, e = .returned (.tuple #[.agg #[.int .i64 z0, .int .i64 z1, .int .i64 z2, .int .i64 z3], .int .i64 0]) ∧ evOf m x = ⟨z0, z1, z2, z3⟩ ∧ Law w w' M X b1 b4 pw pj pr v xs g (step m x) ∧ Held W w' (Nb b1 b4 v M) := by
  refine (r_take h.run x hx).mono ?_
  rintro e w' ⟨rfl, hr, hh⟩
  exact ⟨_, _, _, _, rfl, rfl, h.held hr hh (step_eq h.run.inv.ok hx), hh⟩
theorem l_take (h : Law w W M X b1 b4 pw pj pr v xs g m) (x : S64) (hx : x ∈ mvs m) : Calls Try.prog 30 #[ptr g, .agg #[.int .i64 x.f0, .int .i64 x.f1]] W fun e w' => e = .returned (.tuple #[(evOf m x).v, .int .i64 0]) ∧ Law w w' M X b1 b4 pw pj pr v xs g (step m x) ∧ Held W w' (Nb b1 b4 v M) := by
  refine (r_take h.run x hx).mono ?_
  rintro e w' ⟨rfl, hr, hh⟩
  exact ⟨rfl, h.held hr hh (step_eq h.run.inv.ok hx), hh⟩
theorem l_takel (h : Law w W M X b1 b4 pw pj pr v xs g m) (x0 x1 : Int) (hx : (⟨x0, x1⟩ : S64) ∈ mvs m) : Calls Try.prog 30 #[ptr g, .agg #[.int .i64 x0, .int .i64 x1]] W fun e w' => ∃ z0 z1 z2 z3, e = .returned (.tuple #[.agg #[.int .i64 z0, .int .i64 z1, .int .i64 z2, .int .i64 z3], .int .i64 0]) ∧ evOf m ⟨x0, x1⟩ = ⟨z0, z1, z2, z3⟩ ∧ Law w w' M X b1 b4 pw pj pr v xs g (step m ⟨x0, x1⟩) ∧ Held W w' (Nb b1 b4 v M) := l_takev h ⟨x0, x1⟩ hx
theorem l_takel_no (h : Law w W M X b1 b4 pw pj pr v xs g m) (x0 x1 : Int) (hx : (⟨x0, x1⟩ : S64) ∉ mvs m) : Calls Try.prog 30 #[ptr g, .agg #[.int .i64 x0, .int .i64 x1]] W fun e w' => e = .returned (.tuple #[.agg #[.int .i64 0, .int .i64 0, .int .i64 0, .int .i64 0], .int .i64 180]) ∧ Law w w' M X b1 b4 pw pj pr v xs g m ∧ Below W.heap.size W w' := by
  refine (r_take_no h.run ⟨x0, x1⟩ hx).mono ?_
  rintro e w' ⟨rfl, _, hb⟩
  exact ⟨rfl, h.pass hb, hb⟩
theorem l_take_no (h : Law w W M X b1 b4 pw pj pr v xs g m) (x : S64) (hx : x ∉ mvs m) : Calls Try.prog 30 #[ptr g, .agg #[.int .i64 x.f0, .int .i64 x.f1]] W fun e w' => e = .returned (.tuple #[ev 0 0 0 0, .int .i64 180]) ∧ Law w w' M X b1 b4 pw pj pr v xs g m ∧ Below W.heap.size W w' := by
  refine (r_take_no h.run x hx).mono ?_
  rintro e w' ⟨rfl, _, hb⟩
  exact ⟨rfl, h.pass hb, hb⟩
theorem l_cancel (h : Law w W M X b1 b4 pw pj pr v xs g m) (hc : canStop m = true) : Calls Try.prog 18 #[ptr g] W fun e w' => e = .returned (.bool true) ∧ Law w w' M X b1 b4 pw pj pr v xs g { m with stopped := true } ∧ Held W w' (Nb b1 b4 v M) := by
  refine (r_cancel h.run hc).mono ?_
  rintro e w' ⟨rfl, hr, hh⟩
  exact ⟨rfl, h.held hr hh ⟨rfl, rfl⟩, hh⟩
theorem l_cancel_no (h : Law w W M X b1 b4 pw pj pr v xs g m) (hc : canStop m = false) : Calls Try.prog 18 #[ptr g] W fun e w' => e = .returned (.bool false) ∧ Law w w' M X b1 b4 pw pj pr v xs g m ∧ Below W.heap.size W w' := by
  refine (r_cancel_no h.run hc).mono ?_
  rintro e w' ⟨rfl, _, hb⟩
  exact ⟨rfl, h.pass hb, hb⟩
theorem l_done (h : Law w W M X b1 b4 pw pj pr v xs g m) : Calls Try.prog 17 #[ptr g] W fun e w' => e = .returned (.bool (doneOf m)) ∧ Law w w' M X b1 b4 pw pj pr v xs g m ∧ Below W.heap.size W w' := by
  refine (r_done h.run).mono ?_
  rintro e w' ⟨rfl, _, hb⟩
  exact ⟨rfl, h.pass hb, hb⟩
theorem l_place (h : Law w W M X b1 b4 pw pj pr v xs g m) (p : Int) (hp : -9223372036854775808 ≤ p ∧ p ≤ 9223372036854775807) : Calls Try.prog 29 #[ptr g, .int .i64 p] W fun e w' => e = .returned (.tuple #[pl (placeOf m p), .int .i64 (placeErr m p)]) ∧ Law w w' M X b1 b4 pw pj pr v xs g m ∧ Below W.heap.size W w' := by
  refine (r_place h.run p hp).mono ?_
  rintro e w' ⟨rfl, _, hb⟩
  exact ⟨rfl, h.pass hb, hb⟩
theorem l_measure (h : Law w W M X b1 b4 pw pj pr v xs g m) : Calls Try.prog 32 #[ptr g] W fun e w' => e = .returned (measOf m).v ∧ Law w w' M X b1 b4 pw pj pr v xs g m ∧ Below W.heap.size W w' := by
  refine (r_measure h.run).mono ?_
  rintro e w' ⟨rfl, _, hb⟩
  exact ⟨rfl, h.pass hb, hb⟩
theorem l_measurev (h : Law w W M X b1 b4 pw pj pr v xs g m) : Calls Try.prog 32 #[ptr g] W fun e w' => ∃ z0 z1 z2 z3 z4, e = .returned (.agg #[.int .i64 z0, .int .i64 z1, .int .i64 z2, .int .i64 z3, .int .i64 z4]) ∧ measOf m = ⟨z0, z1, z2, z3, z4⟩ ∧ Law w w' M X b1 b4 pw pj pr v xs g m ∧ Below W.heap.size W w' := by
  refine (r_measure h.run).mono ?_
  rintro e w' ⟨rfl, _, hb⟩
  exact ⟨_, _, _, _, _, rfl, rfl, h.pass hb, hb⟩
theorem l_placev (h : Law w W M X b1 b4 pw pj pr v xs g m) (p : Int) (hp : 0 ≤ p ∧ p ≤ m.workers.length + 1) : Calls Try.prog 29 #[ptr g, .int .i64 p] W fun e w' => ∃ z0 z1 z2, e = .returned (.tuple #[.agg #[.int .i64 z0, .int .i64 z1, .int .i64 z2], .int .i64 0]) ∧ placeOf m p = ⟨z0, z1, z2⟩ ∧ Law w w' M X b1 b4 pw pj pr v xs g m ∧ Below W.heap.size W w' := by
  have h8 := h.run.inv.ok.nw
  have h9 := h.run.inv.ok.pw
  refine (r_place h.run p (by omega)).mono ?_
  rintro e w' ⟨rfl, _, hb⟩
  have he : placeErr m p = 0 := by unfold placeErr; rw [if_neg (by omega)]
  rw [he]
  exact ⟨_, _, _, rfl, rfl, h.pass hb, hb⟩
theorem l_mbound (h : Law w W M X b1 b4 pw pj pr v xs g m) : Calls Try.prog 33 #[ptr g] W fun e w' => e = .returned (.int .i64 (boundOf m)) ∧ Law w w' M X b1 b4 pw pj pr v xs g m ∧ Below W.heap.size W w' := by
  refine (r_bound h.run).mono ?_
  rintro e w' ⟨rfl, _, hb⟩
  exact ⟨rfl, h.pass hb, hb⟩
theorem l_ready (h : Law w W M X b1 b4 pw pj pr v xs g m) : Calls Try.prog 34 #[ptr g] W fun e w' => ∃ A c, e = .returned (.slice A (mvs m).length (mvs m).length) ∧ Kd.R k64 64 w' W.heap.size (fun _ => True) (.slice A (mvs m).length c) (mvs m) ∧ Law w w' M X b1 b4 pw pj pr v xs g m ∧ Below W.heap.size W w' := by
  refine (r_ready h.run).mono ?_
  rintro e w' ⟨A, c, rfl, hr, _, hb⟩
  exact ⟨A, c, rfl, hr, h.pass hb, hb⟩
theorem l_got (h : Law w W M X b1 b4 pw pj pr v xs g m) : Calls Try.prog 26 #[ptr g] W fun e w' => ∃ A c, e = .returned (.slice A m.got.length c) ∧ Kd.R (Kd.int .i64) 3 w' W.heap.size (fun _ => True) (.slice A m.got.length c) m.got ∧ Law w w' M X b1 b4 pw pj pr v xs g m ∧ Below W.heap.size W w' := by
  refine (r_got h.run).mono ?_
  rintro e w' ⟨u, rfl, hr, _, hb⟩
  obtain ⟨A, c, hv⟩ := Kd.R_slice hr
  subst hv
  exact ⟨A, c, rfl, hr, h.pass hb, hb⟩
theorem l_waiting (h : Law w W M X b1 b4 pw pj pr v xs g m) : Calls Try.prog 23 #[ptr g] W fun e w' => ∃ A1 c1 A2 c2, e = .returned (.tuple #[.slice A1 m.sent.length c1, .slice A2 m.given.length c2]) ∧ Kd.C (Kd.int .i64) w' A1 m.sent.length m.sent ∧ m.sent.length ≤ c1 ∧ Kd.C (Kd.int .i64) w' A2 m.given.length m.given ∧ m.given.length ≤ c2 ∧ Law w w' M X b1 b4 pw pj pr v xs g m ∧ Below W.heap.size W w' := by
  obtain ⟨s, hI, hF⟩ := h.run.out
  refine (waiting_calls W g s m hI h.run.inv.ok).mono ?_
  rintro e w' ⟨v1, v2, W1, B, rfl, h1, h2, h3, h4, hb⟩
  obtain ⟨A1, c1, hv1⟩ := Kd.R_slice h1
  obtain ⟨A2, c2, hv2⟩ := Kd.R_slice h3
  subst hv1 hv2
  have h5 := Kd.R_reads' (Kd.R_below h1 h2)
  have h6 := Kd.R_reads' h3
  exact ⟨A1, c1, A2, c2, rfl, h5.2.2, h5.2.1, h6.2.2, h6.2.1, h.pass hb, hb⟩
end
end Go.Proofs.Ythcchpbidbbiaaa.Sc
namespace Go.Proofs.Ythcchpbidbbiaaa.Sc
open Go.ChangeShapes Go.WideShapes Go.ChangeAt Go.RowKit Go.Joins Go.Deep
open Go.Proofs.YthcchpbidbbiaaaW
set_option linter.unusedVariables false
def IsRowI (w : World) (a : Option Addr) (len cap : Nat) (zs : List Int) : Prop :=
  (a = none ∧ len = 0 ∧ cap = 0 ∧ zs = []) ∨
  ∃ x, a = some x ∧ len ≤ cap ∧ cap ≤ maxLen ∧ zs.length = cap ∧ (∀ i, i < zs.length → w.cell? (x.add i) = some (.int .i64 (zs.getD i 0))) ∧ ∀ n ∈ zs, (Lit.int .i64 n).wf = true
theorem array6 {α : Type} {cs : Array α} (h : cs.size = 6) : ∃ c0 c1 c2 c3 c4 c5, cs = #[c0, c1, c2, c3, c4, c5] := by
  obtain ⟨l⟩ := cs
  match l, h with
  | [c0, c1, c2, c3, c4, c5], _ => exact ⟨c0, c1, c2, c3, c4, c5, rfl⟩
section
variable {H : Type} {enc : TypeId × Value → H} {W : World} {base : Nat} {spare : Nat → Bool} {held : Bool}
/-- A slice of ints. -/
theorem ints_open (hsp : ∀ k, spare k = true) {fuel : Nat} {c : Value} {y : DataW H × List MemPlace} (hf : DataW.trod enc Try.prog W base spare held fuel 24 [c] = some y) : ∃ A l c', c = .slice A l.length c' ∧ PrintWords.Kd.C (PrintWords.Kd.int .i64) W A l.length l ∧ l.length ≤ c' := by
  obtain ⟨a1, len1, cap1, hc⟩ := slice_form Try.underlying24 hf
  obtain ⟨z1, w1⟩ : ∃ zs, IsRowI W a1 len1 cap1 zs := by
    rcases open_ints Try.underlying24 Try.underlying3 (by kernel_rfl) hf with ⟨hcs, _⟩ | ⟨x, l, c, zs, hcs, _, hl, hm, hz, _, hcell, hwz⟩
    · rw [hc] at hcs
      simp at hcs
      obtain ⟨rfl, rfl, rfl⟩ := hcs
      exact ⟨[], .inl ⟨rfl, rfl, rfl, rfl⟩⟩
    · rw [hc] at hcs
      simp at hcs
      obtain ⟨rfl, rfl, rfl⟩ := hcs
      exact ⟨zs, .inr ⟨_, rfl, hl, hm, by simpa [hsp] using hz, hcell, hwz⟩⟩
  obtain ⟨l0, rfl, hr0, hm0, hw0, hc0⟩ := PrintWords.ReadsInt.ofRowC w1
  simp only [List.cons.injEq, and_true] at hc
  exact ⟨a1, l0, cap1, hc, PrintWords.Kd.C_of_reads (d := (0 : Int)) (h1 := fun _ => rfl) hr0, hc0⟩
set_option maxRecDepth 100000 in
theorem work_open (hsp : ∀ k, spare k = true) {r : Reach} {b0 : Nat} {v : Value} {d : DataW H} {p : List MemPlace} (hv : Value.okWide Try.prog W r b0 37 v) (h : DataW.Trod enc Try.prog W base spare held 37 v d p) : ∃ X : Raw, v = .agg X.cs ∧ X.In W := by
  obtain ⟨cs, rfl, hsz⟩ := okWide_struct Try.underlying37 hv
  obtain ⟨c0, c1, c2, c3, c4, c5, rfl⟩ := array6 (hsz.trans (by kernel_rfl))
  obtain ⟨fuel, hf⟩ := h
  obtain ⟨y0, y1, y2, y3, n, hx, _, h0, h1, h2, h3⟩ := trod_struct4 Try.underlying37 hf
  have s23 : Try.prog.cellsOf 23 = 3 := by kernel_rfl
  have s24 : Try.prog.cellsOf 24 = 1 := by kernel_rfl
  have s3 : Try.prog.cellsOf 3 = 1 := by kernel_rfl
  simp [Value.cells, s23] at h0
  simp [Value.cells, s24] at h1
  simp [Value.cells, s24] at h2
  simp [Value.cells, s3] at h3
  obtain ⟨z0, z1, z2, m, _, _, k0, k1, k2⟩ := trod_struct3 Try.underlying23 h0
  simp [s3] at k0 k1 k2
  obtain ⟨x0, e0, _, _⟩ := DataW.trod_int Try.underlying3 k0
  obtain ⟨x1, e1, _, _⟩ := DataW.trod_int Try.underlying3 k1
  obtain ⟨x2, e2, _, _⟩ := DataW.trod_int Try.underlying3 k2
  obtain ⟨x5, e5, _, _⟩ := DataW.trod_int Try.underlying3 h3
  obtain ⟨A3, l3, k3, e3, hC3, hl3⟩ := ints_open hsp h1
  obtain ⟨A4, l4, k4, e4, hC4, hl4⟩ := ints_open hsp h2
  simp only [List.cons.injEq, and_true] at e0 e1 e2 e5
  subst e0 e1 e2 e3 e4 e5
  exact ⟨⟨x0, x1, x2, A3, l3, k3, A4, l4, k4, x5⟩, rfl, ⟨hC3, hl3, hC4, hl4⟩⟩
end
end Go.Proofs.Ythcchpbidbbiaaa.Sc
