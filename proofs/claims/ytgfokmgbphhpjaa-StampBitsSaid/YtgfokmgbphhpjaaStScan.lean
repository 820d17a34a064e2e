/- What Find does, in plain terms; how the world turns. -/
import Derived.Test.YtgfokmgbphhpjaaStNew
namespace Go.Proofs.Ytgfokmgbphhpjaa.St
open Go.RowKit Go.Proofs.YtgfokmgbphhpjaaW.PrintWords Go.Proofs.YtgfokmgbphhpjaaW.PrintLast Go.Proofs.YtgfokmgbphhpjaaW.PrintMore Go.Proofs.Ytgfokmgbphhpjaa.PStampKeeps
open Go.Maps Go.WideElems Go.MapKept Go.ChangeMaps Go.ChangeShapes
set_option linter.unusedVariables false
set_option linter.unusedSimpArgs false
/-- Which worlds differ from w at most in the blocks of F and in new ones. -/
structure Far (F : Nat → Prop) (w w' : World) : Prop where
  os : w'.os = w.os
  tape : w'.tape = w.tape
  output : w'.output = w.output
  size : w.heap.size ≤ w'.heap.size
  block : ∀ k, k < w.heap.size → ¬ F k → w'.heap[k]? = w.heap[k]?
theorem Far.refl (F : Nat → Prop) (w : World) : Far F w w := ⟨rfl, rfl, rfl, Nat.le_refl _, fun _ _ _ => rfl⟩
theorem Far.mono {F G : Nat → Prop} {w w' : World} (h : Far F w w') (hg : ∀ k, F k → G k ∨ w.heap.size ≤ k) : Far G w w' := ⟨h.os, h.tape, h.output, h.size, fun k hk hn => h.block k hk (fun hf => by rcases hg k hf with h1 | h1; exact hn h1; omega)⟩
theorem Far.trans {F : Nat → Prop} {w w1 w2 : World} (h : Far F w w1) (h' : Far F w1 w2) : Far F w w2 := ⟨h'.os.trans h.os, h'.tape.trans h.tape, h'.output.trans h.output, Nat.le_trans h.size h'.size, fun k hk hn => (h'.block k (Nat.lt_of_lt_of_le hk h.size) hn).trans (h.block k hk hn)⟩
theorem Far.of_below {F : Nat → Prop} {w w' : World} (h : Below w.heap.size w w') : Far F w w' := ⟨h.os, h.tape, h.output, h.size, fun k hk _ => h.block k hk⟩
theorem Far.of_grown {w w' : World} {row : Option Nat} (h : w.grownBy w' row) : Far (fun k => some k = row) w w' := ⟨h.os, h.tape, h.output, h.size, fun k hk hn => h.block k hk hn⟩
theorem Far.drewN {F : Nat → Prop} {w w' : World} (h : Far F w w') (n : Nat) : Far F w (w'.drewN n) := ⟨h.os, h.tape, h.output, h.size, h.block⟩
theorem Far.drew {F : Nat → Prop} {w w' : World} (h : Far F w w') : Far F w w'.drew := ⟨h.os, h.tape, h.output, h.size, h.block⟩
theorem Far.drawn {F : Nat → Prop} {w w1 w2 : World} (h : Far F w w1) (h' : Drawn0 w1 w2) : Far F w w2 := by obtain ⟨n, rfl⟩ := h'.out; exact h.drewN n
theorem Far.below {F : Nat → Prop} {w0 w w' : World} {base : Nat} (h : Far F w w') (hb : Below base w0 w) (hF : ∀ k, F k → base ≤ k) (hs : base ≤ w.heap.size) : Below base w0 w' := hb.trans ⟨h.os, h.tape, h.output, h.size, fun k hk => h.block k (Nat.lt_of_lt_of_le hk hs) (fun hf => by have := hF k hf; omega)⟩
theorem setCell_size (w : World) (a : Addr) (v : Value) : (w.setCell a v).heap.size = w.heap.size := by
  unfold World.setCell
  split <;> simp
theorem Far.set {F : Nat → Prop} {w w' : World} {g j : Nat} (h : Far F w w') (hg : F g) (v : Value) : Far F w (w'.setCell ⟨g, j, none⟩ v) := by
  refine ⟨?_, ?_, ?_, ?_, ?_⟩
  · exact (Below.refl 0 w' |>.setCell (p := ⟨g, j, none⟩) (Nat.zero_le _) v).os.trans h.os
  · exact (Below.refl 0 w' |>.setCell (p := ⟨g, j, none⟩) (Nat.zero_le _) v).tape.trans h.tape
  · exact (Below.refl 0 w' |>.setCell (p := ⟨g, j, none⟩) (Nat.zero_le _) v).output.trans h.output
  · rw [setCell_size]; exact h.size
  · intro k hk hn
    exact (Below.heap_setCell w' ⟨g, j, none⟩ v k (fun e => hn (by rw [e]; exact hg))).trans (h.block k hk hn)
/-- Two rows of bytes are the same just if their texts are. -/
theorem equal_tells (a b : List Int) (ha : ∀ x ∈ a, 0 ≤ x ∧ x < 256) (hb : ∀ x ∈ b, 0 ≤ x ∧ x < 256) : bytes_Equal.f a b = some (decide (a = b)) := by
  unfold bytes_Equal.f
  rw [ByteArray.toList_eq, ByteArray.toList_eq, strOfNums_data, strOfNums_data]
  have inj : ∀ (a b : List Int), (∀ x ∈ a, 0 ≤ x ∧ x < 256) → (∀ x ∈ b, 0 ≤ x ∧ x < 256) → (a.map fun n => UInt8.ofNat n.toNat) = (b.map fun n => UInt8.ofNat n.toNat) → a = b := by
    intro a
    induction a with
    | nil => intro b _ _ h; cases b with
      | nil => rfl
      | cons y b => simp at h
    | cons x a ih => intro b ha hb h; cases b with
      | nil => simp at h
      | cons y b =>
        rw [List.map_cons, List.map_cons] at h
        injection h with h1 h2
        obtain ⟨x0, x1⟩ := ha x List.mem_cons_self
        obtain ⟨y0, y1⟩ := hb y List.mem_cons_self
        have e : (UInt8.ofNat x.toNat).toNat = (UInt8.ofNat y.toNat).toNat := by rw [h1]
        rw [UInt8.toNat_ofNat', UInt8.toNat_ofNat'] at e
        have : x = y := by omega
        rw [this, ih b (fun z hz => ha z (List.mem_cons_of_mem _ hz)) (fun z hz => hb z (List.mem_cons_of_mem _ hz)) h2]
  congr 1
  by_cases h : a = b
  · rw [h]; simp
  · rw [decide_eq_false h]
    exact beq_eq_false_iff_ne.mpr (fun e => h (inj a b ha hb e))
/-- Which of some rows, by their numbers, is b: how many are looked at, and the number. -/
def scan (rows : List (List Int)) (b : List Int) : List Int → Nat × Option Int
  | [] => (0, none)
  | n :: l => if rows.getD n.toNat [] = b then (1, some n) else ((scan rows b l).1 + 1, (scan rows b l).2)
def Tab.grp (T : Tab) (b : List Int) : List Int := idxs T.bits T.rows (stN T.bits b)
def Tab.find (T : Tab) (b : List Int) : Option Int := (scan T.rows b (T.grp b)).2
def Tab.after (T : Tab) (b : List Int) : Tab := { T with looked := T.looked + (scan T.rows b (T.grp b)).1, same := T.same + (if (T.find b).isSome then 1 else 0) }
theorem scan_le (rows : List (List Int)) (b : List Int) (l : List Int) : (scan rows b l).1 ≤ l.length := by
  induction l with
  | nil => exact Nat.le_refl _
  | cons n l ih =>
    unfold scan
    split
    · simp
    · simpa using ih
/-- The number found: a row that is b. -/
theorem scan_some {rows : List (List Int)} {b l : List Int} {n : Int} (h : (scan rows b l).2 = some n) : n ∈ l ∧ rows.getD n.toNat [] = b := by
  induction l with
  | nil => cases h
  | cons m l ih =>
    unfold scan at h
    split at h
    · rename_i hm
      have : m = n := Option.some.inj h
      subst this
      exact ⟨List.mem_cons_self, hm⟩
    · exact ⟨List.mem_cons_of_mem _ (ih h).1, (ih h).2⟩
theorem scan_none {rows : List (List Int)} {b l : List Int} (h : (scan rows b l).2 = none) : ∀ n ∈ l, rows.getD n.toNat [] ≠ b := by
  induction l with
  | nil => simp
  | cons m l ih =>
    unfold scan at h
    split at h
    · cases h
    · rename_i hm
      intro n hn
      rcases List.mem_cons.1 hn with rfl | hn
      · exact hm
      · exact ih h n hn
end Go.Proofs.Ytgfokmgbphhpjaa.St
