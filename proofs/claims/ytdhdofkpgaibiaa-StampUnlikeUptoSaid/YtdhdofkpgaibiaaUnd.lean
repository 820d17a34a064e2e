/- Expressions: their nodes, and whether one may be. -/
import Derived.Test.YtdhdofkpgaibiaaPStampTellsx0
import Derived.Test.YtdhdofkpgaibiaaBase
import Derived.RangeFuncNested
import Derived.RangeFuncBound
import Derived.RangeFuncCalls
import Derived.RangeFuncLeaves
import Derived.Shelf.Abstract
import Derived.Shelf.RegionOpen
import Derived.WalkKit
import Derived.OwnWalkIn
import Derived.TacticsInMore
import Derived.LoopNIn
import Derived.LoopIn
import Derived.Test.YtdhdofkpgaibiaaPStampTellsx2
namespace Go.Proofs.Ytdhdofkpgaibiaa.Ex
open Go.RowKit Go.Proofs.YtdhdofkpgaibiaaW.PrintWords Go.Proofs.Ytdhdofkpgaibiaa.PStampTells
set_option linter.unusedVariables false
set_option linter.unusedSimpArgs false
/-- How many nodes there are. -/
def cnt (e : S84) : Nat := 1 + (e.f2.attach.map (fun k => cnt k.1)).sum
termination_by SizeOf.sizeOf e
decreasing_by
  have h1 := k.2
  have h2 := List.sizeOf_lt_of_mem h1
  cases e; simp at *; omega
/-- How many stand within one another. -/
def dep (e : S84) : Nat := 1 + (e.f2.attach.map (fun k => dep k.1)).foldr max 0
termination_by SizeOf.sizeOf e
decreasing_by
  have h1 := k.2
  have h2 := List.sizeOf_lt_of_mem h1
  cases e; simp at *; omega
/-- The nodes, each with how deep it is. -/
def nds (d : Int) (e : S84) : List (Int × S84) := (d, e) :: (e.f2.attach.map (fun k => nds (wrap64 (d + 1)) k.1)).flatten
termination_by SizeOf.sizeOf e
decreasing_by
  have h1 := k.2
  have h2 := List.sizeOf_lt_of_mem h1
  cases e; simp at *; omega
theorem cnt_eq (e : S84) : cnt e = 1 + (e.f2.map cnt).sum := by
  rw [cnt]
  congr 2
  exact List.attach_map_val
theorem dep_eq (e : S84) : dep e = 1 + (e.f2.map dep).foldr max 0 := by
  rw [dep]
  congr 2
  exact List.attach_map_val
theorem nds_eq (d : Int) (e : S84) : nds d e = (d, e) :: (e.f2.map (nds (wrap64 (d + 1)))).flatten := by
  rw [nds]
  congr 2
  exact List.attach_map_val
/-- Induction over an expression. -/
theorem ind {P : S84 → Prop} (h : ∀ e, (∀ k ∈ e.f2, P k) → P e) : ∀ e, P e := by
  have : ∀ n e, SizeOf.sizeOf e < n → P e := by
    intro n
    induction n with
    | zero => intro e h; omega
    | succ n ih =>
      intro e hn
      refine h e (fun k hk => ih k ?_)
      have h2 := List.sizeOf_lt_of_mem hk
      cases e; simp at *; omega
  exact fun e => this _ e (Nat.lt_succ_self _)
theorem nds_length (e : S84) : ∀ d, (nds d e).length = cnt e := by
  induction e using ind with
  | h e ih =>
    intro d
    rw [nds_eq, cnt_eq, List.length_cons, List.length_flatten, List.map_map, Nat.add_comm]
    congr 2
    refine List.map_congr_left (fun k hk => ?_)
    exact ih k hk _
theorem cnt_pos (e : S84) : 0 < cnt e := by rw [cnt_eq]; omega
theorem cnt_kid {e k : S84} (h : k ∈ e.f2) : cnt k < cnt e := by
  rw [cnt_eq e]
  have : ∀ l : List S84, k ∈ l → cnt k ≤ (l.map cnt).sum := by
    intro l
    induction l with
    | nil => intro h; cases h
    | cons x l ih =>
      intro h
      rw [List.map_cons, List.sum_cons]
      rcases List.mem_cons.1 h with rfl | h
      · omega
      · have := ih h; omega
  have := this e.f2 h
  omega
theorem dep_le (e : S84) : dep e ≤ cnt e := by
  induction e using ind with
  | h e ih =>
    rw [dep_eq, cnt_eq]
    have : ∀ l : List S84, (∀ k ∈ l, dep k ≤ cnt k) → (l.map dep).foldr max 0 ≤ (l.map cnt).sum := by
      intro l
      induction l with
      | nil => intro _; exact Nat.le_refl _
      | cons x l ih2 =>
        intro h
        have h1 := h x List.mem_cons_self
        have h2 := ih2 (fun k hk => h k (List.mem_cons_of_mem _ hk))
        rw [List.map_cons, List.map_cons, List.foldr_cons, List.sum_cons]
        omega
    have := this e.f2 ih
    omega
end Go.Proofs.Ytdhdofkpgaibiaa.Ex
namespace Go.Proofs.Ytdhdofkpgaibiaa.Ex
open Go.RowKit Go.Shelf Go.Proofs.YtdhdofkpgaibiaaW.PrintWords Go.Proofs.YtdhdofkpgaibiaaW.PrintLast Go.Proofs.YtdhdofkpgaibiaaW.PrintMore Go.Proofs.Ytdhdofkpgaibiaa.PStampTells
set_option linter.unusedVariables false
set_option linter.unusedSimpArgs false
attribute [local go_sem] Oper.semAt_some
theorem room_of_none {F : Fence} (hd : F.depth = none) (k : Nat) : F.room k := fun d h => by rw [hd] at h; cases h
theorem round_any {F : Fence} (hd : F.depth = none) {m m' : Nat} {P : Program} {l : Nat} {f : FuncId} {tmps : Array Value} {assign body : Code} {w : World} {R : Ending → World → Prop}
    (h : RoundIn F m P l f tmps assign body w R) : RoundIn F m' P l f tmps assign body w R := ⟨h.1, fun c cs _ => h.2 c cs (room_of_none hd _)⟩
theorem yield_any {F : Fence} (hd : F.depth = none) {m : Nat} (m' : Nat) {P : Program} {l : Nat} {args : Array Value} {W : World} {R : Ending → World → Prop} (h : YieldAt F m P l args W R) : YieldAt F m' P l args W R := by
  obtain ⟨fn, tmps, assign, body, hy, hR⟩ := h
  exact ⟨fn, tmps, assign, body, hy, round_any hd hR⟩
/-- A node as it lies in memory: how deep, what, its kids' row. -/
structure Nd (W0 : World) where
  d : Int
  e : S84
  A : Option Addr
  c : Nat
  reads : Kd.C k84 W0 A e.f2.length e.f2
  cap : e.f2.length ≤ c
def Nd.val {W0 : World} (x : Nd W0) : Value := .agg #[.int .i64 x.e.f0, .int .i64 x.e.f1, .slice x.A x.e.f2.length x.c]
def Nd.encs {W0 : World} (x : Nd W0) : Array Value := #[.int .i64 x.d, x.val]
/-- K is the kid number i of x. -/
structure Kid {W0 : World} (x : Nd W0) (i : Nat) (K : Nd W0) : Prop where
  d : K.d = wrap64 (x.d + 1)
  e : x.e.f2[i]? = some K.e
  cells : ∃ ad, x.A = some ad ∧ W0.cell? (ad.add (i * 3)) = some (.int .i64 K.e.f0) ∧ W0.cell? ⟨(ad.add (i * 3)).block, (ad.add (i * 3)).off + 1, none⟩ = some (.int .i64 K.e.f1) ∧ W0.cell? ⟨(ad.add (i * 3)).block, (ad.add (i * 3)).off + 2, none⟩ = some (.slice K.A K.e.f2.length K.c)
theorem kid_at {W0 : World} (x : Nd W0) (i : Nat) (h : i < x.e.f2.length) : ∃ K, Kid x i K := by
  obtain ⟨ad, A2, c2, e, h0, h1, h2, h3, h4⟩ := at_T84 x.reads i (Int.natCast_nonneg _) (by omega)
  rw [Int.toNat_natCast] at h0 h1 h2
  have e2 : x.e.f2[i]? = some (rd_T84 x.e.f2 i) := by unfold rd_T84; rw [Int.toNat_natCast, List.getD_eq_getElem?_getD, List.getElem?_eq_getElem h]; rfl
  exact ⟨⟨wrap64 (x.d + 1), rd_T84 x.e.f2 i, A2, c2, h4, h3⟩, rfl, e2, ad, e, h0, h1, h2⟩
/-- The nodes of x, each ahead of its kids. -/
inductive Pre {W0 : World} : Nd W0 → List (Nd W0) → Prop
  | mk (x : Nd W0) (K : Nat → Nd W0) (L : Nat → List (Nd W0)) : (∀ i, i < x.e.f2.length → Kid x i (K i)) → (∀ i, i < x.e.f2.length → Pre (K i) (L i)) → Pre x (x :: ((List.range x.e.f2.length).map L).flatten)
theorem pre_ex {W0 : World} (x : Nd W0) : ∃ L, Pre x L := by
  have : ∀ n (x : Nd W0), SizeOf.sizeOf x.e < n → ∃ L, Pre x L := by
    intro n
    induction n with
    | zero => intro e h; omega
    | succ n ih =>
      intro x hn
      have h : ∀ i, ∃ K : Nd W0 × List (Nd W0), i < x.e.f2.length → Kid x i K.1 ∧ Pre K.1 K.2 := by
        intro i
        by_cases hi : i < x.e.f2.length
        · obtain ⟨K, hK⟩ := kid_at x i hi
          obtain ⟨L, hL⟩ := ih K (by
            have h2 := List.sizeOf_lt_of_mem (List.mem_of_getElem? hK.e)
            have h3 : SizeOf.sizeOf x.e.f2 < SizeOf.sizeOf x.e := by cases x.e; simp; omega
            omega)
          exact ⟨(K, L), fun _ => ⟨hK, hL⟩⟩
        · exact ⟨(x, []), fun h => absurd h hi⟩
      exact ⟨_, Pre.mk x (fun i => (Classical.choose (h i)).1) (fun i => (Classical.choose (h i)).2) (fun i hi => (Classical.choose_spec (h i) hi).1) (fun i hi => (Classical.choose_spec (h i) hi).2)⟩
  exact this _ x (Nat.lt_succ_self _)
theorem pre_strip {W0 : World} {x : Nd W0} {L : List (Nd W0)} (h : Pre x L) : L.map (fun y => (y.d, y.e)) = nds x.d x.e := by
  induction h with
  | mk x K L hK hP ih =>
    rw [nds_eq, List.map_cons, List.map_flatten, List.map_map]
    congr 2
    refine List.ext_getElem (by simp) (fun i h1 h2 => ?_)
    simp only [List.length_map, List.length_range] at h1
    rw [List.getElem_map, List.getElem_map, List.getElem_range]
    have := ih i h1
    simp only [Function.comp]
    rw [this, (hK i h1).d]
    have h3 := (hK i h1).e
    rw [List.getElem?_eq_getElem h1] at h3
    rw [Option.some.inj h3]
theorem pre_length {W0 : World} {x : Nd W0} {L : List (Nd W0)} (h : Pre x L) : L.length = cnt x.e := by
  rw [← nds_length x.e x.d, ← pre_strip h, List.length_map]
/-- What a round that goes on keeps: what lay below n, and the boxes of expressions from D on. -/
def Kpb (n D : Nat) (W W' : World) : Prop := Below n W W' ∧ ∀ k, D ≤ k → ∀ o, W.heap[k]? = some o → (∃ cs m, o = .cells cs 84 m) → W'.heap[k]? = some o
theorem Kpb.refl (n D : Nat) (W : World) : Kpb n D W W := ⟨Below.refl _ _, fun _ _ _ h _ => h⟩
theorem Kpb.trans {n D : Nat} {A B C : World} (h : Kpb n D A B) (h' : Kpb n D B C) : Kpb n D A C := ⟨h.1.trans h'.1, fun k hk o ho hc => h'.2 k hk o (h.2 k hk o ho hc) hc⟩
theorem Kpb.alloc {n D : Nat} (W : World) (o : Obj) (h : n ≤ W.heap.size) : Kpb n D W (W.alloc o) := ⟨(Below.refl _ _).alloc h o, fun k _ o' ho _ => by
  have hlt := (Array.getElem?_eq_some_iff.1 ho).1
  exact (Below.heap_alloc W o k hlt).trans ho⟩
theorem Kpb.of_below {n D : Nat} {W W' : World} (h : Below W.heap.size W W') (hn : n ≤ W.heap.size) : Kpb n D W W' := ⟨h.mono hn, fun k _ o ho _ => (h.block k (Array.getElem?_eq_some_iff.1 ho).1).trans ho⟩
theorem kpb_b {n D : Nat} {w : World} (hn : n ≤ w.heap.size) : ∀ (W : World) (l : Nat) (o o' : Obj), w.heap.size ≤ l → W.heap[l]? = some o → o.isCells = false → o.isWalk = false → Kpb n D W (W.putObj l o') := by
  intro W l o o' hl ho hc hw
  refine ⟨belowK_b hn W l o o' hl ho hc hw, fun k hk o2 ho2 hc2 => ?_⟩
  have hne : k ≠ l := fun e => by
    subst e
    rw [ho] at ho2
    obtain rfl := Option.some.inj ho2
    obtain ⟨cs, m, rfl⟩ := hc2
    cases hc
  exact (World.putObj_heap_other hne).trans ho2
/-- A box of the call's own, behind a round. -/
theorem Kpb.box {n D : Nat} {W W' : World} (h : Kpb n D W W') {k : Nat} (hk : D ≤ k) {cs : Array Value} {m : Nat × Nat} (hb : W.heap[k]? = some (.cells cs 84 m)) : W'.heap[k]? = some (.cells cs 84 m) :=
  h.2 k hk _ hb ⟨cs, m, rfl⟩
theorem cellAt {W : World} {b : Nat} {cs : Array Value} {t : TypeId} {m : Nat × Nat} (h : W.heap[b]? = some (.cells cs t m)) (j : Nat) : W.cell? ⟨b, j, none⟩ = cs[j]? := by simp [World.cell?, h]
theorem cell_old {W0 w : World} {a : Addr} {v : Value} (h : W0.cell? a = some v) (hb : Below W0.heap.size W0 w) : w.cell? a = some v := by
  rw [← h]
  exact World.cell?_of_block (hb.block a.block (World.block_lt_of_cell? W0 _ h))
end Go.Proofs.Ytdhdofkpgaibiaa.Ex
namespace Go.Proofs.Ytdhdofkpgaibiaa.Ex
open Go.RowKit Go.Shelf Go.Proofs.YtdhdofkpgaibiaaW.PrintWords Go.Proofs.YtdhdofkpgaibiaaW.PrintLast Go.Proofs.YtdhdofkpgaibiaaW.PrintMore Go.Proofs.Ytdhdofkpgaibiaa.PStampTells
set_option linter.unusedVariables false
set_option linter.unusedSimpArgs false
attribute [local go_sem] Oper.semAt_some
theorem upto_succ {α : Type} (L : Nat → List α) (k : Nat) : ((List.range (k + 1)).map L).flatten = ((List.range k).map L).flatten ++ L k := by
  rw [List.range_succ, List.map_append, List.flatten_append]; simp
theorem upto_pre {α : Type} (L : Nat → List α) {k n : Nat} (h : k ≤ n) : ((List.range k).map L).flatten <+: ((List.range n).map L).flatten := by
  induction n with
  | zero => obtain rfl : k = 0 := by omega
            exact List.prefix_refl _
  | succ n ih =>
    rcases Nat.lt_or_ge n k with h1 | h1
    · obtain rfl : k = n + 1 := by omega
      exact List.prefix_refl _
    · rw [upto_succ]
      exact (ih h1).trans (List.prefix_append _ _)
set_option maxRecDepth 1000000 in
set_option maxHeartbeats 8000000 in
theorem tell_in (F : Fence) (hd : F.depth = none) (h71 : F.fn 123) (hro : F.round = none) (l : Nat) (W0 : World) (D N : Nat) (J Jx : List (Nd W0) → World → Prop)
    (hJ : ∀ s W o, J s W → J s (W.alloc o))
    (hY : ∀ m pre x W, J pre W → pre.length < N → YieldAt F m Try.prog l x.encs W fun e W' =>
      (e = .returned (.bool true) ∧ J (pre ++ [x]) W' ∧ Kpb W0.heap.size D W W') ∨ (e = .returned (.bool false) ∧ Jx (pre ++ [x]) W'))
    {x : Nd W0} {L : List (Nd W0)} (hp : Pre x L) : ∀ (n : Nat) (pre : List (Nd W0)) (W : World), Below W0.heap.size W0 W → D ≤ W.heap.size → J pre W → pre.length + L.length ≤ N →
      CallsIn F n Try.prog 123 #[x.val, .int .i64 x.d, .func (.yield l) #[] #[]] W fun e W' =>
        (e = .returned (.bool true) ∧ J (pre ++ L) W' ∧ Kpb W0.heap.size D W W') ∨ (e = .returned (.bool false) ∧ ∃ q, q <+: L ∧ Jx (pre ++ q) W') := by
  induction hp with
  | mk x K L hK hP ih =>
    intro n pre W hb hD hJ0 hN
    have hdd : ∀ k : Nat, (F.depth.isSome = true → 1 ≤ k) := fun k h => by rw [hd] at h; cases h
    have HN := Aside0.mk hN
    have HX := Aside0.mk x.reads
    have HMX := Aside0.mk (Kd.C_max x.reads)
    have HB := Aside0.mk hb
    have HD := Aside0.mk hD
    have hbx : (W.alloc (.cells #[.int .i64 x.e.f0, .int .i64 x.e.f1, .slice x.A x.e.f2.length x.c] 84)).heap[W.heap.size]? = some (.cells #[.int .i64 x.e.f0, .int .i64 x.e.f1, .slice x.A x.e.f2.length x.c] 84) := World.alloc_heap_new W _
    have hy0 : YieldAt F (n - 1) Try.prog l x.encs (W.alloc (.cells #[.int .i64 x.e.f0, .int .i64 x.e.f1, .slice x.A x.e.f2.length x.c] 84)) fun e W' =>
      (e = .returned (.bool true) ∧ J (pre ++ [x]) W' ∧ Kpb W0.heap.size D W W' ∧ W'.cell? ⟨W.heap.size, 2, none⟩ = some (.slice x.A x.e.f2.length x.c)) ∨ (e = .returned (.bool false) ∧ Jx (pre ++ [x]) W') :=
      YieldAt.mono (hY (n - 1) pre x _ (hJ _ _ _ hJ0) (by simp at hN; omega)) (fun e W' h => h.imp (fun ⟨a, b, c⟩ => ⟨a, b, (Kpb.alloc W _ hb.size).trans c, (cellAt (c.box hD hbx) 2).trans rfl⟩) id)
    have HY := Aside0.mk hY
    have HIH := Aside0.mk ih
    have HKD := Aside0.mk hK
    clear hN hb hD hY ih hK hJ0
    unfold Nd.encs at hy0
    unfold Nd.val at hy0 ⊢
    obtain ⟨xd, hxd⟩ : ∃ xd, x.d = xd := ⟨_, rfl⟩
    obtain ⟨x0, hx0⟩ : ∃ x0, x.e.f0 = x0 := ⟨_, rfl⟩
    obtain ⟨x1, hx1⟩ : ∃ x1, x.e.f1 = x1 := ⟨_, rfl⟩
    obtain ⟨xA, hxA⟩ : ∃ xA, x.A = xA := ⟨_, rfl⟩
    obtain ⟨xn, hxn⟩ : ∃ xn, x.e.f2.length = xn := ⟨_, rfl⟩
    obtain ⟨xc, hxc⟩ : ∃ xc, x.c = xc := ⟨_, rfl⟩
    rw [hxd, hx0, hx1, hxA, hxn, hxc] at hy0 
    rw [hxd, hx0, hx1, hxA, hxn, hxc]
    obtain ⟨fn, tmps, assign, body, hy, hR⟩ := hy0
    refine callsIn_of_wp Try.func123 rfl h71 ?_ hro
    simp only [Try.ntmps123, List.size_toArray, List.length_cons, List.length_nil, Nat.reduceAdd, Nat.reduceSub, Array.replicate_succ, Array.replicate_zero, List.push_toArray, List.append_toArray, List.nil_append, List.cons_append]
    gi_wp2_with ((try refine ⟨hdd _, ?_⟩); refine hR.mono ?_; clear hR; rintro e W2 (⟨rfl, hJ2, hk2, hc2⟩ | ⟨rfl, hx2⟩))
    · have HJ2 := Aside0.mk hJ2
      have HK2 := Aside0.mk hk2
      clear hJ2 hk2
      gi_loopw [17] (fun i wr => ∃ k : Nat, i = .int .i64 k ∧ k ≤ xn ∧ J (pre ++ x :: ((List.range k).map L).flatten) wr ∧ Kpb W0.heap.size D W wr) (fun i _ => xn - (intOf i).toNat)
      case atStart => exact ⟨0, rfl, Nat.zero_le _, HJ2.out, HK2.out⟩
      case round =>
        obtain ⟨k, rfl, hk, hJk, hKk⟩ := hrel
        have HJK := Aside0.mk hJk
        have HKK := Aside0.mk hKk
        clear hJk hKk
        by_cases hlt : k < xn
        · have p0 : decide ((k : Int) < (xn : Int)) = true := decide_eq_true (by omega)
          have p1 := eq_true (show (k : Int) < (xn : Int) by omega)
          have hkid := HKD.out k (by omega)
          obtain ⟨ad, ead, k0, k1, k2⟩ := hkid.cells
          rw [hxA] at ead
          subst ead
          have HBW := Aside0.mk (HB.out.trans HKK.out.1)
          have k0' := cell_old k0 HBW.out
          have k1' := cell_old k1 HBW.out
          have k2' := cell_old k2 HBW.out
          clear k0 k1 k2
          gi_wp2_with fail
          have hup := upto_pre L (show k + 1 ≤ xn by omega)
          rw [upto_succ] at hup
          have hlen := hup.length_le
          have hih := HIH.out k (by omega) (n - 1) (pre ++ x :: ((List.range k).map L).flatten) (wr.alloc (.cells #[.int .i64 (K k).e.f0, .int .i64 (K k).e.f1, .slice (K k).A (K k).e.f2.length (K k).c] 84)) (HBW.out.trans ((Below.refl _ wr).alloc HBW.out.size _)) (by have := HKK.out.1.size; have := HD.out; simp; omega) (hJ _ _ _ HJK.out) (by have := HN.out; rw [hxn] at this; simp only [List.length_append, List.length_cons] at this hlen ⊢; omega)
          rw [hkid.d, hxd] at hih
          unfold Nd.val at hih
          refine hih.mono ?_
          rintro e W3 (⟨rfl, hJ3, hk3⟩ | ⟨rfl, q, hq, hx3⟩)
          · have HJ3 := Aside0.mk hJ3
            have HK3 := Aside0.mk (HKK.out.trans ((Kpb.alloc wr _ HBW.out.size).trans hk3))
            have hmx : xn ≤ 9223372036854775807 := by have := HMX.out; omega
            clear hJ3 hk3 hih
            gi_wp2
            go_roundw
            case rel => exact ⟨k + 1, by go_num, by omega, by rw [upto_succ]; have := HJ3.out; rwa [List.append_assoc, List.cons_append] at this, HK3.out⟩
            case measure => simp [intOf]; omega
          · gi_wp2
            go_ret
            refine .inr ⟨rfl, x :: (((List.range k).map L).flatten ++ q), ?_, by rwa [List.append_assoc, List.cons_append] at hx3⟩
            refine List.cons_prefix_cons.2 ⟨rfl, ?_⟩
            refine ((List.prefix_append_right_inj _).2 hq).trans ?_
            exact hup
        · have p0 : decide ((k : Int) < (xn : Int)) = false := decide_eq_false (by omega)
          obtain rfl : k = xn := by omega
          gi_wp2
          go_ret
          exact .inl ⟨rfl, HJK.out, HKK.out⟩
    · gi_wp2
      go_ret
      exact .inr ⟨rfl, [x], List.cons_prefix_cons.2 ⟨rfl, List.nil_prefix⟩, hx2⟩
end Go.Proofs.Ytdhdofkpgaibiaa.Ex
namespace Go.Proofs.Ytdhdofkpgaibiaa.Ex
open Go.RowKit Go.Shelf Go.Proofs.YtdhdofkpgaibiaaW.PrintWords Go.Proofs.YtdhdofkpgaibiaaW.PrintLast Go.Proofs.YtdhdofkpgaibiaaW.PrintMore Go.Proofs.Ytdhdofkpgaibiaa.PStampTells
set_option linter.unusedVariables false
set_option linter.unusedSimpArgs false
attribute [local go_sem] Oper.semAt_some
/-- The world behind nodes' own box. -/
def Nd.box {W0 : World} (x : Nd W0) : Obj := .cells #[.int .i64 x.e.f0, .int .i64 x.e.f1, .slice x.A x.e.f2.length x.c] 84
set_option maxRecDepth 1000000 in
set_option maxHeartbeats 4000000 in
theorem nodes_in (F : Fence) (n : Nat) (h : F.fn 84) (hro : F.round = none) {W0 : World} (x : Nd W0) (w : World) :
    CallsIn F n Try.prog 84 #[x.val] w fun e w' => e = .returned (.func (.func 122) #[] #[.pointer (some ⟨w.heap.size, 0, none⟩)]) ∧ w' = w.alloc x.box := by
  unfold Nd.val Nd.box
  refine callsIn_of_wp Try.func84 rfl h ?_ hro
  simp only [Try.ntmps84, List.size_toArray, List.length_cons, List.length_nil, Nat.reduceAdd, Nat.reduceSub, Array.replicate_succ, Array.replicate_zero, List.push_toArray, List.append_toArray, List.nil_append, List.cons_append]
  gi_wp2
  go_ret
  exact ⟨rfl, rfl⟩
set_option maxRecDepth 1000000 in
set_option maxHeartbeats 4000000 in
theorem nodes_stops (F : Fence) (hd : F.depth = none) (n : Nat) (h70 : F.fn 122) (h71 : F.fn 123) (hro : F.round = none) {W0 : World} {x : Nd W0} (hx1 : x.d = 1) {L : List (Nd W0)} (hp : Pre x L) (w : World) (B : Nat) (hB : w.heap[B]? = some x.box) (hb0 : Below W0.heap.size W0 w) :
    SeqStopsK F n Try.prog 122 #[.pointer (some ⟨B, 0, none⟩)] (Nd.encs (W0 := W0)) (Kpb W0.heap.size w.heap.size) (fun ys => ys = L) (fun q => q <+: L) L.length w := by
  intro l J Jx W hW hJ hJx hY h0
  have hdd : ∀ k : Nat, (F.depth.isSome = true → 1 ≤ k) := fun k h => by rw [hd] at h; cases h
  have hBlt := (Array.getElem?_eq_some_iff.1 hB).1
  have hB2 : W.heap[B]? = some x.box := (hW.block B hBlt).trans hB
  have c0 : W.cell? ⟨B, 0, none⟩ = some (.int .i64 x.e.f0) := (cellAt hB2 0).trans rfl
  have c1 : W.cell? ⟨B, 1, none⟩ = some (.int .i64 x.e.f1) := (cellAt hB2 1).trans rfl
  have c2 : W.cell? ⟨B, 2, none⟩ = some (.slice x.A x.e.f2.length x.c) := (cellAt hB2 2).trans rfl
  have ht := tell_in F hd h71 hro l W0 w.heap.size L.length J Jx (fun s W1 o hs => hJ s W1 _ none hs (World.grownBy_alloc W1 o none) (fun r e => by cases e))
    (fun m pre y W1 hj hl => yield_any hd m (hY pre y W1 hj hl)) hp (n - 1) [] W (hb0.trans (hW.mono hb0.size)) hW.size h0 (by simp)
  rw [hx1] at ht
  unfold Nd.val at ht
  clear hB hB2 hY
  refine callsIn_of_wp Try.func122 rfl h70 ?_ hro
  simp only [Try.ntmps122, List.size_toArray, List.length_cons, List.length_nil, Nat.reduceAdd, Nat.reduceSub, Array.replicate_succ, Array.replicate_zero, List.push_toArray, List.append_toArray, List.nil_append, List.cons_append]
  gi_wp2_with ((try refine ⟨hdd _, ?_⟩); gi_at_call 123; refine ht.mono ?_; clear ht; rintro e W1 (⟨rfl, hJ1, hk1⟩ | ⟨rfl, q, hq, hx⟩))
  · go_end0
    exact ⟨⟨_, rfl⟩, .inl ⟨L, rfl, by simpa using hJ1⟩⟩
  · go_end0
    exact ⟨⟨_, rfl⟩, .inr ⟨q, hq, by simpa using hx⟩⟩
end Go.Proofs.Ytdhdofkpgaibiaa.Ex
namespace Go.Proofs.Ytdhdofkpgaibiaa.Ex
open Go.RowKit Go.Shelf Go.Proofs.YtdhdofkpgaibiaaW.PrintWords Go.Proofs.YtdhdofkpgaibiaaW.PrintLast Go.Proofs.YtdhdofkpgaibiaaW.PrintMore Go.Proofs.Ytdhdofkpgaibiaa.PStampTells
set_option linter.unusedVariables false
set_option linter.unusedSimpArgs false
attribute [local go_sem] Oper.semAt_some
/-- The fence's functions that the iterator wants. -/
structure Fn (F : Fence) : Prop where
  depth : F.depth = none
  round : F.round = none
  nodes : F.fn 84
  nodes1 : F.fn 122
  tell : F.fn 123
set_option maxRecDepth 1000000 in
set_option maxHeartbeats 8000000 in
theorem size_in (F : Fence) (hF : Fn F) (n : Nat) (hn : 3 ≤ n) (h : F.fn 82) (w : World) (x : Nd w) (hx1 : x.d = 1) :
    CallsIn F n Try.prog 82 #[x.val] w fun e W' => e = .returned (.int .i64 ((min (cnt x.e) 1001 : Nat) : Int)) ∧ Below w.heap.size w W' := by
  have h1 : 1 ≤ n := by omega
  obtain ⟨hd, hro, hfn, hfn1, hft⟩ := hF
  obtain ⟨L, hp⟩ := pre_ex x
  have hLc := pre_length hp
  have hval : x.val = .agg #[.int .i64 x.e.f0, .int .i64 x.e.f1, .slice x.A x.e.f2.length x.c] := rfl
  have hbox : x.box = .cells #[.int .i64 x.e.f0, .int .i64 x.e.f1, .slice x.A x.e.f2.length x.c] 84 := rfl
  have HN := fun w => nodes_in F (n - 1) hfn hro x w
  rw [hval] at HN
  rw [hval]
  have hst := fun w3 B hB hb0 => nodes_stops F hd (n - 1) hfn1 hft hro hx1 hp w3 B hB hb0
  refine callsIn_of_wp_marks Try.func82 rfl h ?_ hro
  simp only [Try.ntmps82, List.size_toArray, List.length_cons, List.length_nil, Nat.reduceAdd, Nat.reduceSub, Array.replicate_succ, Array.replicate_zero, List.push_toArray, List.append_toArray, List.nil_append, List.cons_append]
  gi_wp2_with (gi_at_call 84; refine (HN _).mono ?_; rintro e w' ⟨rfl, rfl⟩)
  obtain ⟨W3, hW3⟩ : ∃ W3, ((w.alloc x.box).alloc (.cells #[.int .i64 0] 3)).alloc x.box = W3 := ⟨_, rfl⟩
  have hs3 : W3.heap.size = w.heap.size + 3 := by rw [← hW3]; simp
  have hB3 : Below w.heap.size w W3 := by rw [← hW3]; exact (((Below.refl _ w).alloc (Nat.le_refl _) _).alloc (by simp) _).alloc (by simp; omega) _
  have hb3 : W3.heap[w.heap.size + 1 + 1]? = some x.box := by
    rw [← hW3]
    have := World.alloc_heap_new ((w.alloc x.box).alloc (.cells #[.int .i64 0] 3)) x.box
    simpa using this
  have hn3 : W3.heap[w.heap.size + 1]? = some (.cells #[.int .i64 0] 3) := by
    rw [← hW3, Below.heap_alloc _ _ _ (by simp)]
    have := World.alloc_heap_new (w.alloc x.box) (.cells #[.int .i64 0] 3)
    simpa using this
  rw [hbox] at hW3
  rw [hW3]
  have hc0 : W3.cell? ⟨w.heap.size + 1, 0, none⟩ = some (.int .i64 0) := (cellAt hn3 0).trans rfl
  have hf0 : W3.frozen? ⟨w.heap.size + 1, 0, none⟩ = false := by simp [World.frozen?, hn3]
  obtain ⟨A, hA⟩ : ∃ A, x.A = A := ⟨_, rfl⟩
  obtain ⟨len, hlen⟩ : ∃ len, x.e.f2.length = len := ⟨_, rfl⟩
  obtain ⟨c, hc⟩ : ∃ c, x.c = c := ⟨_, rfl⟩
  obtain ⟨x0, hx0⟩ : ∃ x0, x.e.f0 = x0 := ⟨_, rfl⟩
  obtain ⟨x1, hx2⟩ : ∃ x1, x.e.f1 = x1 := ⟨_, rfl⟩
  rw [hA, hlen, hc, hx0, hx2]
  refine wpIn_rangeFunc_ownF hro h1 (gf := 122) (lb := #[.pointer (some ⟨w.heap.size + 1 + 1, 0, none⟩)]) rfl hfn1 (enters_of Try.func122 (by kernel_rfl) rfl)
    (hst W3 (w.heap.size + 1 + 1) hb3 hB3) Kpb.trans (kpb_b hB3.size) (Below.refl _ _) (fun _ => rfl)
    (fun pre W => ((W.cell? ⟨w.heap.size + 1, 0, none⟩ = some (.int .i64 (pre.length : Int)) ∧ W.frozen? ⟨w.heap.size + 1, 0, none⟩ = false) ∧ pre.length ≤ 1000) ∧ Below w.heap.size w W)
    (fun c pre W => (W.cell? ⟨w.heap.size + 1, 0, none⟩ = some (.int .i64 (pre.length : Int)) ∧ pre.length = 1001 ∧ c = .exit 0) ∧ Below w.heap.size w W)
    (OwnFrom.and (Own.from (fun s A B row hs hg hr => ⟨⟨cell_kept hs.1.1 hg hr, (frozen_kept hs.1.1 hg hr).trans hs.1.2⟩, hs.2⟩) _) (ownFrom_below (Nat.le_refl _) hB3.size))
    (fun c => OwnFrom.and (Own.from (fun s A B row hs hg hr => ⟨cell_kept hs.1 hg hr, hs.2⟩) _) (ownFrom_below (Nat.le_refl _) hB3.size))
    ⟨⟨⟨hc0, hf0⟩, Nat.zero_le _⟩, hB3⟩
    (fun y => { tmps := #[.agg #[.int .i64 x0, .int .i64 x1, .slice A len c], .pointer (some ⟨w.heap.size, 0, none⟩), .int .i64 0, .pointer (some ⟨w.heap.size + 1, 0, none⟩), .agg #[.int .i64 x0, .int .i64 x1, .slice A len c], .func (.func 122) #[] #[.pointer (some ⟨w.heap.size + 1 + 1, 0, none⟩)], .int .i64 y.d, y.val, undef, undef, undef, undef, undef], defers := [] }) ?assign ?body ?done ?stop
  case assign =>
    intro l y W K hK
    gi_wp2
    simpa [Nd.encs] using hK
  case body =>
    rintro l pre y W ⟨⟨⟨hc, hf⟩, hk⟩, hB⟩ _
    obtain ⟨k, hkd⟩ : ∃ k, pre.length = k := ⟨_, rfl⟩
    have hl : (pre ++ [y]).length = k + 1 := by simp [hkd]
    rw [hkd] at hc hk
    obtain ⟨v, hv⟩ : ∃ v : Int, v = (k : Int) + 1 := ⟨_, rfl⟩
    have hkp : KeepsOthers W (W.setCell ⟨w.heap.size + 1, 0, none⟩ (.int .i64 v)) := KeepsOthers.setCell _ _ _
    have hbw := hB.setCell (p := ⟨w.heap.size + 1, 0, none⟩) (by simp) (.int .i64 v)
    have hkb : Kpb w.heap.size W3.heap.size W (W.setCell ⟨w.heap.size + 1, 0, none⟩ (.int .i64 v)) := ⟨(Below.refl _ W).setCell (p := ⟨w.heap.size + 1, 0, none⟩) (by simp) _, fun k hk o ho _ => by
      rw [Below.heap_setCell W ⟨w.heap.size + 1, 0, none⟩ _ k (by simp; omega)]; exact ho⟩
    have hcn : (W.setCell ⟨w.heap.size + 1, 0, none⟩ (.int .i64 v)).cell? ⟨w.heap.size + 1, 0, none⟩ = some (.int .i64 v) := World.cell?_setCell_same' W ⟨w.heap.size + 1, 0, none⟩ (.int .i64 v) (by rw [hc]; rfl)
    have hfn : (W.setCell ⟨w.heap.size + 1, 0, none⟩ (.int .i64 v)).frozen? ⟨w.heap.size + 1, 0, none⟩ = false := by rw [World.frozen?_setCell]; exact hf
    rcases Nat.lt_or_ge k 1000 with h2 | h2
    · have p0 : decide ((1000 : Int) < (k : Int) + 1) = false := decide_eq_false (by omega)
      subst hv
      gi_wp2
      exact ⟨hkp, hkb, ⟨⟨by rw [hl]; exact hcn, hfn⟩, by omega⟩, hbw⟩
    · obtain rfl : k = 1000 := by omega
      obtain rfl : v = 1001 := by omega
      gi_wp2
      exact ⟨hkp, ⟨by rw [hl]; exact hcn, hl, rfl⟩, hbw⟩
  case done =>
    rintro D ys W hD rfl ⟨⟨⟨hc, hf⟩, hk⟩, hB⟩ hK
    have hmin : min (cnt x.e) 1001 = cnt x.e := by rw [← hLc]; omega
    gi_wp2
    refine ⟨by simp, .inl ⟨_, _, rfl, run_takeDeferred hK, ?_⟩⟩
    exact ⟨_, results_tmp rfl _ _ _, by rw [hmin]; rfl, hB.trans (belowK_b (w := w) (Nat.le_refl _) W D _ _ (by omega) hK rfl rfl)⟩
  case stop =>
    rintro D c pre W hD hpre ⟨⟨hc, hl, rfl⟩, hB⟩ hK
    have hmin : min (cnt x.e) 1001 = pre.length := by rw [← hLc]; have := hpre.length_le; omega
    gi_wp2
    refine ⟨by simp, .inl ⟨_, _, rfl, run_takeDeferred hK, ?_⟩⟩
    exact ⟨_, results_tmp rfl _ _ _, by rw [hmin, hl]; rfl, hB.trans (belowK_b (w := w) (Nat.le_refl _) W D _ _ (by omega) hK rfl rfl)⟩
end Go.Proofs.Ytdhdofkpgaibiaa.Ex
namespace Go.Proofs.Ytdhdofkpgaibiaa.Ex
open Go.RowKit Go.Proofs.YtdhdofkpgaibiaaW.PrintWords Go.Proofs.Ytdhdofkpgaibiaa.PStampTells
set_option linter.unusedVariables false
set_option linter.unusedSimpArgs false
theorem foldr_max_le (l : List Nat) (k : Nat) (h : k ∈ l) : k ≤ l.foldr max 0 := by
  induction l with
  | nil => cases h
  | cons x l ih =>
    rw [List.foldr_cons]
    rcases List.mem_cons.1 h with rfl | h
    · exact Nat.le_max_left _ _
    · exact Nat.le_trans (ih h) (Nat.le_max_right _ _)
theorem foldr_max_mem (l : List Nat) (h : 0 < l.foldr max 0) : l.foldr max 0 ∈ l := by
  induction l with
  | nil => simp at h
  | cons x l ih =>
    rw [List.foldr_cons] at h ⊢
    rcases Nat.le_total x (l.foldr max 0) with h1 | h1
    · rw [Nat.max_eq_right h1] at h ⊢
      exact List.mem_cons_of_mem _ (ih h)
    · rw [Nat.max_eq_left h1]
      exact List.mem_cons_self
theorem nds_deep (e : S84) : ∀ d : Int, 0 ≤ d → d + cnt e < 4611686018427387904 → (∀ p ∈ nds d e, d ≤ p.1 ∧ p.1 ≤ d - 1 + dep e) ∧ (∃ p ∈ nds d e, p.1 = d - 1 + dep e) := by
  induction e using ind with
  | h e ih =>
    intro d h0 h1
    have hw : wrap64 (d + 1) = d + 1 := Base.wrap64_id (by omega) (by omega)
    have hk : ∀ k ∈ e.f2, (∀ p ∈ nds (d + 1) k, d + 1 ≤ p.1 ∧ p.1 ≤ d + dep k) ∧ (∃ p ∈ nds (d + 1) k, p.1 = d + dep k) := by
      intro k hk
      have h2 := cnt_kid hk
      have := ih k hk (d + 1) (by omega) (by omega)
      rw [show d + 1 - 1 + (dep k : Int) = d + dep k by omega] at this
      exact this
    have hdk : ∀ k ∈ e.f2, dep k ≤ dep e - 1 := by
      intro k hk
      have := foldr_max_le (e.f2.map dep) (dep k) (List.mem_map.2 ⟨k, hk, rfl⟩)
      have := dep_eq e
      omega
    have hpos : 1 ≤ dep e := by rw [dep_eq]; omega
    rw [nds_eq, hw]
    constructor
    · intro p hp
      rcases List.mem_cons.1 hp with rfl | hp
      · simp only; omega
      · obtain ⟨l, hl, hp⟩ := List.mem_flatten.1 hp
        obtain ⟨k, hk', rfl⟩ := List.mem_map.1 hl
        have h2 := (hk k hk').1 p hp
        have h3 := hdk k hk'
        omega
    · rcases Nat.eq_zero_or_pos ((e.f2.map dep).foldr max 0) with h2 | h2
      · exact ⟨(d, e), List.mem_cons_self, by rw [dep_eq, h2]; simp⟩
      · obtain ⟨k, hk', hke⟩ := List.mem_map.1 (foldr_max_mem _ h2)
        obtain ⟨p, hp, hpe⟩ := (hk k hk').2
        refine ⟨p, List.mem_cons_of_mem _ (List.mem_flatten.2 ⟨_, List.mem_map.2 ⟨k, hk', rfl⟩, hp⟩), ?_⟩
        have := dep_eq e
        omega
end Go.Proofs.Ytdhdofkpgaibiaa.Ex
namespace Go.Proofs.Ytdhdofkpgaibiaa.Ex
open Go.RowKit Go.Shelf Go.Proofs.YtdhdofkpgaibiaaW.PrintWords Go.Proofs.YtdhdofkpgaibiaaW.PrintLast Go.Proofs.YtdhdofkpgaibiaaW.PrintMore Go.Proofs.Ytdhdofkpgaibiaa.PStampTells
set_option linter.unusedVariables false
set_option linter.unusedSimpArgs false
attribute [local go_sem] Oper.semAt_some
set_option maxRecDepth 1000000 in
set_option maxHeartbeats 8000000 in
theorem depth_in (F : Fence) (hF : Fn F) (n : Nat) (hn : 3 ≤ n) (h : F.fn 83) (w : World) (x : Nd w) (hx1 : x.d = 1) (hcnt : cnt x.e ≤ 1000) :
    CallsIn F n Try.prog 83 #[x.val] w fun e W' => ∃ v : Int, e = .returned (.int .i64 v) ∧ (100 < v ↔ 100 < dep x.e) ∧ Below w.heap.size w W' := by
  have h1 : 1 ≤ n := by omega
  obtain ⟨hd, hro, hfn, hfn1, hft⟩ := hF
  obtain ⟨L, hp⟩ := pre_ex x
  have hLs := pre_strip hp
  rw [hx1] at hLs
  have hnd := nds_deep x.e 1 (by decide) (by omega)
  have hpos : ∀ y ∈ L, 1 ≤ y.d ∧ y.d ≤ dep x.e ∧ y.d ≤ 1000 := fun y hy => by
    have h1 := hnd.1 (y.d, y.e) (by rw [← hLs]; exact List.mem_map.2 ⟨y, hy, rfl⟩)
    have h2 := dep_le x.e
    simp only at h1
    omega
  have hmx : ∃ y ∈ L, y.d = dep x.e := by
    obtain ⟨p, hp1, hp2⟩ := hnd.2
    rw [← hLs] at hp1
    obtain ⟨y, hy, rfl⟩ := List.mem_map.1 hp1
    exact ⟨y, hy, by simp only at hp2; omega⟩
  clear hLs hnd
  have hval : x.val = .agg #[.int .i64 x.e.f0, .int .i64 x.e.f1, .slice x.A x.e.f2.length x.c] := rfl
  have hbox : x.box = .cells #[.int .i64 x.e.f0, .int .i64 x.e.f1, .slice x.A x.e.f2.length x.c] 84 := rfl
  have HN := fun w => nodes_in F (n - 1) hfn hro x w
  rw [hval] at HN
  rw [hval]
  have hst := fun w3 B hB hb0 => nodes_stops F hd (n - 1) hfn1 hft hro hx1 hp w3 B hB hb0
  refine callsIn_of_wp_marks Try.func83 rfl h ?_ hro
  simp only [Try.ntmps83, List.size_toArray, List.length_cons, List.length_nil, Nat.reduceAdd, Nat.reduceSub, Array.replicate_succ, Array.replicate_zero, List.push_toArray, List.append_toArray, List.nil_append, List.cons_append]
  gi_wp2_with (gi_at_call 84; refine (HN _).mono ?_; rintro e w' ⟨rfl, rfl⟩)
  obtain ⟨W3, hW3⟩ : ∃ W3, ((w.alloc x.box).alloc (.cells #[.int .i64 0] 3)).alloc x.box = W3 := ⟨_, rfl⟩
  have hs3 : W3.heap.size = w.heap.size + 3 := by rw [← hW3]; simp
  have hB3 : Below w.heap.size w W3 := by rw [← hW3]; exact (((Below.refl _ w).alloc (Nat.le_refl _) _).alloc (by simp) _).alloc (by simp; omega) _
  have hb3 : W3.heap[w.heap.size + 1 + 1]? = some x.box := by
    rw [← hW3]
    have := World.alloc_heap_new ((w.alloc x.box).alloc (.cells #[.int .i64 0] 3)) x.box
    simpa using this
  have hn3 : W3.heap[w.heap.size + 1]? = some (.cells #[.int .i64 0] 3) := by
    rw [← hW3, Below.heap_alloc _ _ _ (by simp)]
    have := World.alloc_heap_new (w.alloc x.box) (.cells #[.int .i64 0] 3)
    simpa using this
  rw [hbox] at hW3
  rw [hW3]
  have hc0 : W3.cell? ⟨w.heap.size + 1, 0, none⟩ = some (.int .i64 0) := (cellAt hn3 0).trans rfl
  have hf0 : W3.frozen? ⟨w.heap.size + 1, 0, none⟩ = false := by simp [World.frozen?, hn3]
  obtain ⟨A, hA⟩ : ∃ A, x.A = A := ⟨_, rfl⟩
  obtain ⟨len, hlen⟩ : ∃ len, x.e.f2.length = len := ⟨_, rfl⟩
  obtain ⟨c, hc⟩ : ∃ c, x.c = c := ⟨_, rfl⟩
  obtain ⟨x0, hx0⟩ : ∃ x0, x.e.f0 = x0 := ⟨_, rfl⟩
  obtain ⟨x1, hx2⟩ : ∃ x1, x.e.f1 = x1 := ⟨_, rfl⟩
  rw [hA, hlen, hc, hx0, hx2]
  refine wpIn_rangeFunc_ownF hro h1 (gf := 122) (lb := #[.pointer (some ⟨w.heap.size + 1 + 1, 0, none⟩)]) rfl hfn1 (enters_of Try.func122 (by kernel_rfl) rfl)
    (hst W3 (w.heap.size + 1 + 1) hb3 hB3) Kpb.trans (kpb_b hB3.size) (Below.refl _ _) (fun _ => rfl)
    (fun pre W => (∃ v : Int, (W.cell? ⟨w.heap.size + 1, 0, none⟩ = some (.int .i64 v) ∧ W.frozen? ⟨w.heap.size + 1, 0, none⟩ = false) ∧ 0 ≤ v ∧ v ≤ 100 ∧ ∀ y ∈ pre, y.d ≤ v) ∧ Below w.heap.size w W)
    (fun c pre W => (∃ v : Int, W.cell? ⟨w.heap.size + 1, 0, none⟩ = some (.int .i64 v) ∧ 100 < v ∧ (∃ y ∈ pre, 100 < y.d) ∧ c = .exit 0) ∧ Below w.heap.size w W)
    (OwnFrom.and (Own.from (fun s A B row hs hg hr => by obtain ⟨v, hs1, hs2⟩ := hs; exact ⟨v, ⟨cell_kept hs1.1 hg hr, (frozen_kept hs1.1 hg hr).trans hs1.2⟩, hs2⟩) _) (ownFrom_below (Nat.le_refl _) hB3.size))
    (fun c => OwnFrom.and (Own.from (fun s A B row hs hg hr => by obtain ⟨v, hs1, hs2⟩ := hs; exact ⟨v, cell_kept hs1 hg hr, hs2⟩) _) (ownFrom_below (Nat.le_refl _) hB3.size))
    ⟨⟨0, ⟨hc0, hf0⟩, by decide, by decide, by simp⟩, hB3⟩
    (fun y => { tmps := #[.agg #[.int .i64 x0, .int .i64 x1, .slice A len c], .pointer (some ⟨w.heap.size, 0, none⟩), .int .i64 0, .pointer (some ⟨w.heap.size + 1, 0, none⟩), .int .i64 y.d, .agg #[.int .i64 x0, .int .i64 x1, .slice A len c], .func (.func 122) #[] #[.pointer (some ⟨w.heap.size + 1 + 1, 0, none⟩)], .int .i64 y.d, y.val, undef, undef, undef, undef, undef, undef], defers := [] }) ?assign ?body ?done ?stop
  case assign =>
    intro l y W K hK
    simp only [Nd.encs] at hK ⊢
    gi_wp2
    simpa using hK
  case body =>
    rintro l pre y W ⟨⟨v, ⟨hc, hf⟩, h0, hk, hmax⟩, hB⟩ _
    have hkp : ∀ u, KeepsOthers W (W.setCell ⟨w.heap.size + 1, 0, none⟩ (.int .i64 u)) := fun u => KeepsOthers.setCell _ _ _
    have hbw := fun u => hB.setCell (p := ⟨w.heap.size + 1, 0, none⟩) (by simp) (.int .i64 u)
    have hkb : ∀ u, Kpb w.heap.size W3.heap.size W (W.setCell ⟨w.heap.size + 1, 0, none⟩ (.int .i64 u)) := fun u => ⟨(Below.refl _ W).setCell (p := ⟨w.heap.size + 1, 0, none⟩) (by simp) _, fun k hk o ho _ => by
      rw [Below.heap_setCell W ⟨w.heap.size + 1, 0, none⟩ _ k (by simp; omega)]; exact ho⟩
    have hcn : ∀ u, (W.setCell ⟨w.heap.size + 1, 0, none⟩ (.int .i64 u)).cell? ⟨w.heap.size + 1, 0, none⟩ = some (.int .i64 u) := fun u => World.cell?_setCell_same' W ⟨w.heap.size + 1, 0, none⟩ (.int .i64 u) (by rw [hc]; rfl)
    have hfn : ∀ u, (W.setCell ⟨w.heap.size + 1, 0, none⟩ (.int .i64 u)).frozen? ⟨w.heap.size + 1, 0, none⟩ = false := fun u => by rw [World.frozen?_setCell]; exact hf
    have HH := Aside0.mk (And.intro hkp (And.intro hbw (And.intro hkb (And.intro hcn hfn))))
    clear hkp hbw hkb hcn hfn
    have hall : ∀ u, v ≤ u → y.d ≤ u → ∀ z ∈ pre ++ [y], z.d ≤ u := fun u h1 h2 z hz => by
      rcases List.mem_append.1 hz with h3 | h3
      · have := hmax z h3; omega
      · rw [List.mem_singleton] at h3; subst h3; exact h2
    gi_wp2
    · obtain ⟨hkp, hbw, hkb, hcn, hfn⟩ := HH.out
      exact ⟨hkp _, ⟨_, hcn _, by omega, ⟨y, by simp, by omega⟩, rfl⟩, hbw _⟩
    · obtain ⟨hkp, hbw, hkb, hcn, hfn⟩ := HH.out
      exact ⟨hkp _, by rw [← hs3]; exact hkb _, ⟨_, ⟨hcn _, hfn _⟩, by omega, by omega, hall _ (by omega) (by omega)⟩, hbw _⟩
    · obtain ⟨hkp, hbw, hkb, hcn, hfn⟩ := HH.out
      exact ⟨hkp _, by rw [← hs3]; exact hkb _, ⟨_, ⟨hcn _, hfn _⟩, by omega, by omega, hall _ (by omega) (by omega)⟩, hbw _⟩
  case done =>
    rintro D ys W hD rfl ⟨⟨v, ⟨hc, hf⟩, h0, hk, hmax⟩, hB⟩ hK
    gi_wp2
    refine ⟨by simp, .inl ⟨_, _, rfl, run_takeDeferred hK, ?_⟩⟩
    refine ⟨_, results_tmp rfl _ _ _, v, rfl, ?_, hB.trans (belowK_b (w := w) (Nat.le_refl _) W D _ _ (by omega) hK rfl rfl)⟩
    obtain ⟨y, hy, hyd⟩ := hmx
    have := hmax y hy
    omega
  case stop =>
    rintro D c pre W hD hpre ⟨⟨v, hc, h0, ⟨y, hy, hyd⟩, rfl⟩, hB⟩ hK
    gi_wp2
    refine ⟨by simp, .inl ⟨_, _, rfl, run_takeDeferred hK, ?_⟩⟩
    refine ⟨_, results_tmp rfl _ _ _, v, rfl, ?_, hB.trans (belowK_b (w := w) (Nat.le_refl _) W D _ _ (by omega) hK rfl rfl)⟩
    have := hpos y (hpre.subset hy)
    omega
end Go.Proofs.Ytdhdofkpgaibiaa.Ex
namespace Go.Proofs.Ytdhdofkpgaibiaa.Ex
open Go.RowKit Go.Proofs.YtdhdofkpgaibiaaW.PrintWords Go.Proofs.Ytdhdofkpgaibiaa.PStampTells
set_option linter.unusedVariables false
set_option linter.unusedSimpArgs false
def isT (e : S84) : Bool := e.f0 == 1 || e.f0 == 2
def kidsOk (l : List S84) (lo hi : Nat) (t : Bool) : Bool := decide (lo ≤ l.length ∧ l.length ≤ hi) && l.all (fun k => isT k == t)
def most (a : Int) : Int := if a = 1 ∨ a = 7 ∨ a = 10 then 63 else if a = 2 ∨ a = 3 then 99 else 0
def okKids (a : Int) (l : List S84) : Bool :=
  if a = 1 then l.length == 0 else if a = 2 ∨ a = 3 then kidsOk l 0 4 true else if a = 4 then kidsOk l 2 2 true else if a = 5 ∨ a = 7 ∨ a = 10 then kidsOk l 1 1 false
  else if a = 6 ∨ a = 8 ∨ a = 9 then kidsOk l 2 2 false else false
/-- A node is as its kind asks; of its kids their sorts alone. -/
def okn (e : S84) : Bool := decide (0 ≤ e.f1 ∧ e.f1 ≤ most e.f0) && okKids e.f0 e.f2
theorem isTerm_f (e : S84) : expr_isTerm.f e.f0 e.f1 e.f2 = some (isT e) := by
  unfold expr_isTerm.f isT
  split
  · rename_i h; rw [h]; rfl
  · rename_i h; rw [beq_eq_false_iff_ne.2 h]; rfl
theorem kids_l0 (t : Bool) (l : List S84) (hl : l.length ≤ 1000) : ∀ (m i k : Nat), i + m = l.length → m < k → expr_kidsAre.l0 k t l (l.length : Int) (i : Int) = some ((l.drop i).all (fun e => isT e == t)) := by
  intro m
  induction m with
  | zero =>
    intro i k hi hk
    obtain ⟨k, rfl⟩ : ∃ j, k = j + 1 := ⟨k - 1, by omega⟩
    unfold expr_kidsAre.l0
    rw [if_neg (by omega), List.drop_eq_nil_of_le (by omega)]
    rfl
  | succ m ih =>
    intro i k hi hk
    obtain ⟨k, rfl⟩ : ∃ j, k = j + 1 := ⟨k - 1, by omega⟩
    have hlt : i < l.length := by omega
    unfold expr_kidsAre.l0
    rw [if_pos (by omega), if_pos (by omega), if_pos (by omega)]
    have hr : rd_T84 l i = l[i] := by unfold rd_T84; rw [Int.toNat_natCast, List.getD_eq_getElem?_getD, List.getElem?_eq_getElem hlt]; rfl
    rw [hr, isTerm_f, Option.bind_some, List.drop_eq_getElem_cons hlt, List.all_cons]
    have hw : wrap64 ((i : Int) + 1) = ((i + 1 : Nat) : Int) := by rw [Base.wrap64_id (by omega) (by omega)]; omega
    rw [hw, ih (i + 1) k (by omega) (by omega)]
    cases isT l[i] <;> cases t <;> rfl
theorem kids_f (k : Nat) (a b : Int) (l : List S84) (lo hi : Nat) (t : Bool) (hhi : hi ≤ 100) (hk : hi + 2 < k) : expr_kidsAre.f k a b l (lo : Int) (hi : Int) t = some (kidsOk l lo hi t) := by
  obtain ⟨k, rfl⟩ : ∃ j, k = j + 1 := ⟨k - 1, by omega⟩
  unfold expr_kidsAre.f kidsOk
  by_cases h1 : l.length < lo
  · rw [if_pos (by omega), expr_kidsAre.j0, if_pos rfl, decide_eq_false (by omega)]; rfl
  · rw [if_neg (by omega), expr_kidsAre.j0]
    by_cases h2 : hi < l.length
    · rw [if_pos (decide_eq_true (by omega)), decide_eq_false (by omega)]; rfl
    · rw [if_neg (by simp; omega), decide_eq_true (by omega)]
      have := kids_l0 t l (by omega) l.length 0 k (by omega) (by omega)
      rw [Bool.true_and]
      exact this
theorem j1_f (m a b : Int) (l : List S84) : expr_shaped.j1 39 m a b l = some (decide (0 ≤ b ∧ b ≤ m) && okKids a l) := by
  have k1 := kids_f 36 a b l 0 4 true (by decide) (by decide)
  have k2 := kids_f 36 a b l 2 2 true (by decide) (by decide)
  have k3 := kids_f 35 a b l 1 1 false (by decide) (by decide)
  have k4 := kids_f 35 a b l 2 2 false (by decide) (by decide)
  have h0 : ((0 : Nat) : Int) = 0 := rfl
  have h1 : ((1 : Nat) : Int) = 1 := rfl
  have h2 : ((2 : Nat) : Int) = 2 := rfl
  have h4 : ((4 : Nat) : Int) = 4 := rfl
  rw [h0, h4] at k1
  rw [h2] at k2 k4
  rw [h1] at k3
  have key : expr_shaped.j2 38 false a b l = some (okKids a l) := by
    rw [expr_shaped.j2]
    unfold okKids
    by_cases a1 : a = 1
    · subst a1; simp; rw [Bool.eq_iff_iff]; simp
    by_cases a2 : a = 2
    · subst a2; simp [expr_shaped.j3, k1]
    by_cases a3 : a = 3
    · subst a3; simp [expr_shaped.j3, k1]
    by_cases a4 : a = 4
    · subst a4; simp [expr_shaped.j3, k2]
    by_cases a5 : a = 5
    · subst a5; simp [expr_shaped.j3, expr_shaped.j4, k3]
    by_cases a7 : a = 7
    · subst a7; simp [expr_shaped.j3, expr_shaped.j4, k3]
    by_cases a10 : a = 10
    · subst a10; simp [expr_shaped.j3, expr_shaped.j4, k3]
    by_cases a6 : a = 6
    · subst a6; simp [expr_shaped.j3, expr_shaped.j4, k4]
    by_cases a8 : a = 8
    · subst a8; simp [expr_shaped.j3, expr_shaped.j4, k4]
    by_cases a9 : a = 9
    · subst a9; simp [expr_shaped.j3, expr_shaped.j4, k4]
    have b3 : (a == 3) = false := beq_eq_false_iff_ne.2 a3
    have b10 : (a == 10) = false := beq_eq_false_iff_ne.2 a10
    simp [expr_shaped.j3, expr_shaped.j4, a1, a2, a3, a4, a5, a6, a7, a8, a9, a10, b3, b10]
  rw [expr_shaped.j1]
  by_cases h : b < 0
  · rw [if_pos h, decide_eq_false (by omega), expr_shaped.j2, if_pos rfl]; rfl
  · rw [if_neg h]
    by_cases h' : m < b
    · rw [show decide (b > m) = true from decide_eq_true h', expr_shaped.j2, if_pos rfl, decide_eq_false (by omega)]; rfl
    · rw [show decide (b > m) = false from decide_eq_false (by omega), key, decide_eq_true (by omega)]; rfl
theorem shaped_f (a b : Int) (l : List S84) : expr_shaped.f 40 a b l = some (okn ⟨a, b, l⟩) := by
  unfold expr_shaped.f okn most
  by_cases a1 : a = 1
  · subst a1; simp only [if_pos, true_or, expr_shaped.j0, beq_self_eq_true, j1_f]
  by_cases a7 : a = 7
  · subst a7; simp [expr_shaped.j0, j1_f]
  by_cases a10 : a = 10
  · subst a10; simp [expr_shaped.j0, j1_f]
  by_cases a2 : a = 2
  · subst a2; simp [expr_shaped.j0, j1_f]
  by_cases a3 : a = 3
  · subst a3; simp [expr_shaped.j0, j1_f]
  have b10 : (a == 10) = false := beq_eq_false_iff_ne.2 a10
  simp [expr_shaped.j0, j1_f, a1, a2, a3, a7, a10, b10]
end Go.Proofs.Ytdhdofkpgaibiaa.Ex
namespace Go.Proofs.Ytdhdofkpgaibiaa.Ex
open Go.RowKit Go.Shelf Go.Proofs.YtdhdofkpgaibiaaW.PrintWords Go.Proofs.YtdhdofkpgaibiaaW.PrintLast Go.Proofs.YtdhdofkpgaibiaaW.PrintMore Go.Proofs.Ytdhdofkpgaibiaa.PStampTells
set_option linter.unusedVariables false
set_option linter.unusedSimpArgs false
attribute [local go_sem] Oper.semAt_some
/-- 0: it may be; else the error. -/
def rightN (e : S84) : Int := if 1000 < cnt e then 20 else if 100 < dep e then 21 else if (nds 1 e).all (fun p => okn p.2) then 0 else 22
theorem eta (e : S84) : (⟨e.f0, e.f1, e.f2⟩ : S84) = e := by cases e; rfl
theorem keeps_below {W W' : World} (h : Below W.heap.size W W') : KeepsOthers W W' := ⟨h.size, fun k o ho _ => (h.block k (Array.getElem?_eq_some_iff.1 ho).1).trans ho⟩
theorem cell_alloc {W : World} {a : Addr} {v : Value} (o : Obj) (h : W.cell? a = some v) : (W.alloc o).cell? a = some v := cell_kept h (World.grownBy_alloc W o none) (fun r e => by cases e)
def Nd.move {W0 W1 : World} (h : Below W0.heap.size W0 W1) (x : Nd W0) : Nd W1 := ⟨x.d, x.e, x.A, x.c, Kd.C_below x.reads h, x.cap⟩
theorem fn_wide : Fn Fence.wide := ⟨rfl, rfl, trivial, trivial, trivial⟩
theorem size_calls (w : World) (x : Nd w) (hx1 : x.d = 1) : Calls Try.prog 82 #[x.val] w fun e W' => e = .returned (.int .i64 ((min (cnt x.e) 1001 : Nat) : Int)) ∧ Below w.heap.size w W' :=
  callsIn_wide.1 (size_in Fence.wide fn_wide 3 (Nat.le_refl _) trivial w x hx1)
theorem depth_calls (w : World) (x : Nd w) (hx1 : x.d = 1) (hc : cnt x.e ≤ 1000) : Calls Try.prog 83 #[x.val] w fun e W' => ∃ v : Int, e = .returned (.int .i64 v) ∧ (100 < v ↔ 100 < dep x.e) ∧ Below w.heap.size w W' :=
  callsIn_wide.1 (depth_in Fence.wide fn_wide 3 (Nat.le_refl _) trivial w x hx1 hc)
theorem shaped_calls (w : World) (a b : Int) (A : Option Addr) (c : Nat) (l : List S84) (h : Kd.C k84 w A l.length l) (hc : l.length ≤ c) :
    Calls Try.prog 85 #[.agg #[.int .i64 a, .int .i64 b, .slice A l.length c]] w fun e w' => e = .returned (.bool (okn ⟨a, b, l⟩)) ∧ Below w.heap.size w w' :=
  expr_shaped.calls 40 a b A c l _ w h hc (shaped_f a b l)
theorem kept_block {W W' : World} {k : Nat} {o : Obj} (h : W.heap[k]? = some o) (ho : o.isCells = true) {row : Option Nat} (hg : W.grownBy W' row) (hr : ∀ r, row = some r → ∃ o : Obj, W.heap[r]? = some o ∧ o.isCells = false) : W'.heap[k]? = some o := by
  refine (hg.block k (Array.getElem?_eq_some_iff.1 h).1 (fun e => ?_)).trans h
  obtain ⟨o', h', hc⟩ := hr k e.symm
  rw [h] at h'
  obtain rfl := Option.some.inj h'
  rw [ho] at hc
  cases hc
set_option maxRecDepth 1000000 in
set_option maxHeartbeats 8000000 in
theorem right_in (w : World) (x : Nd w) (hx1 : x.d = 1) :
    CallsIn Fence.wide 5 Try.prog 50 #[x.val] w fun e W' => e = .returned (.int .i64 (rightN x.e)) ∧ Below w.heap.size w W' := by
  obtain ⟨L, hp⟩ := pre_ex x
  have hLs := pre_strip hp
  rw [hx1] at hLs
  have hval : x.val = .agg #[.int .i64 x.e.f0, .int .i64 x.e.f1, .slice x.A x.e.f2.length x.c] := rfl
  have hbox : x.box = .cells #[.int .i64 x.e.f0, .int .i64 x.e.f1, .slice x.A x.e.f2.length x.c] 84 := rfl
  have HN := fun w => nodes_in Fence.wide 4 trivial rfl x w
  have hst := fun w3 B hB hb0 => nodes_stops Fence.wide rfl 4 trivial trivial rfl hx1 hp w3 B hB hb0
  have HS : ∀ W1, Below w.heap.size w W1 → Calls Try.prog 82 #[x.val] W1 fun e W' => e = .returned (.int .i64 ((min (cnt x.e) 1001 : Nat) : Int)) ∧ Below W1.heap.size W1 W' := fun W1 hb => size_calls W1 (x.move hb) hx1
  have HD : ∀ W1, Below w.heap.size w W1 → cnt x.e ≤ 1000 → Calls Try.prog 83 #[x.val] W1 fun e W' => ∃ v : Int, e = .returned (.int .i64 v) ∧ (100 < v ↔ 100 < dep x.e) ∧ Below W1.heap.size W1 W' := fun W1 hb hc => depth_calls W1 (x.move hb) hx1 hc
  rw [hval] at HN HS HD
  rw [hval]
  obtain ⟨R, hR⟩ : ∃ R, rightN x.e = R := ⟨_, rfl⟩
  rw [hR]
  have HR := Aside0.mk hR
  have HRD := Aside0.mk x.reads
  have HCP := Aside0.mk x.cap
  clear hR
  obtain ⟨A, hA⟩ : ∃ A, x.A = A := ⟨_, rfl⟩
  obtain ⟨len, hlen⟩ : ∃ len, x.e.f2.length = len := ⟨_, rfl⟩
  obtain ⟨c, hc⟩ : ∃ c, x.c = c := ⟨_, rfl⟩
  obtain ⟨x0, hx0⟩ : ∃ x0, x.e.f0 = x0 := ⟨_, rfl⟩
  obtain ⟨x1, hx2⟩ : ∃ x1, x.e.f1 = x1 := ⟨_, rfl⟩
  rw [hA, hlen, hc, hx0, hx2] at HN HS HD
  rw [hA, hlen, hc, hx0, hx2]
  have HX := Aside0.mk hbox
  rw [hA, hlen, hc, hx0, hx2] at HX
  have HST := Aside0.mk hst
  clear hbox hst hval
  refine callsIn_of_wp_marks Try.func50 rfl trivial ?_ rfl
  simp only [Try.ntmps50, List.size_toArray, List.length_cons, List.length_nil, Nat.reduceAdd, Nat.reduceSub, Array.replicate_succ, Array.replicate_zero, List.push_toArray, List.append_toArray, List.nil_append, List.cons_append]
  have hro : Fence.wide.round = none := rfl
  obtain ⟨m, hm⟩ : ∃ m, min (cnt x.e) 1001 = m := ⟨_, rfl⟩
  rw [hm] at HS
  have HB2 := Aside0.mk (((Below.refl w.heap.size w).alloc (Nat.le_refl _) (.cells #[.int .i64 x0, .int .i64 x1, .slice A len c] 84)).alloc (by simp) (.cells #[.int .i64 0] 25))
  have hE2 : ((w.alloc (.cells #[.int .i64 x0, .int .i64 x1, .slice A len c] 84)).alloc (.cells #[.int .i64 0] 25)).heap[w.heap.size]? = some (.cells #[.int .i64 x0, .int .i64 x1, .slice A len c] 84) :=
    (Below.heap_alloc _ _ _ (by simp)).trans (World.alloc_heap_new w _)
  have hR2 : ((w.alloc (.cells #[.int .i64 x0, .int .i64 x1, .slice A len c] 84)).alloc (.cells #[.int .i64 0] 25)).heap[w.heap.size + 1]? = some (.cells #[.int .i64 0] 25) := by
    have := World.alloc_heap_new (w.alloc (.cells #[.int .i64 x0, .int .i64 x1, .slice A len c] 84)) (.cells #[.int .i64 0] 25)
    simpa using this
  have hz2 : ((w.alloc (.cells #[.int .i64 x0, .int .i64 x1, .slice A len c] 84)).alloc (.cells #[.int .i64 0] 25)).heap.size = w.heap.size + 2 := by simp
  gi_wp2_with fail
  refine ⟨trivial, ?_⟩
  refine (callsIn_wide.2 (HS _ HB2.out)).mono ?_
  rintro e w4 ⟨rfl, hb4⟩
  have hE4 := (hb4.block w.heap.size (by rw [hz2]; omega)).trans hE2
  have hR4 := (hb4.block (w.heap.size + 1) (by rw [hz2]; omega)).trans hR2
  have HB4 := Aside0.mk (HB2.out.trans (hb4.mono (by rw [hz2]; omega)))
  have hz4 : w.heap.size + 2 ≤ w4.heap.size := by have := hb4.size; rw [hz2] at this; exact this
  clear hE2 hR2 hb4
  have e0 : w4.cell? ⟨w.heap.size, 0, none⟩ = some (.int .i64 x0) := (cellAt hE4 0).trans rfl
  have e1 : w4.cell? ⟨w.heap.size, 1, none⟩ = some (.int .i64 x1) := (cellAt hE4 1).trans rfl
  have e2 : w4.cell? ⟨w.heap.size, 2, none⟩ = some (.slice A len c) := (cellAt hE4 2).trans rfl
  have r0 : w4.cell? ⟨w.heap.size + 1, 0, none⟩ = some (.int .i64 0) := (cellAt hR4 0).trans rfl
  have r1 : w4.frozen? ⟨w.heap.size + 1, 0, none⟩ = false := by simp [World.frozen?, hR4]
  by_cases hcn : 1000 < cnt x.e
  · have p0 : decide ((1000 : Int) < (m : Int)) = true := decide_eq_true (by omega)
    have hcs : (w4.setCell ⟨w.heap.size + 1, 0, none⟩ (.int .i64 20)).cell? ⟨w.heap.size + 1, 0, none⟩ = some (.int .i64 20) := World.cell?_setCell_same' _ _ _ (by rw [r0]; rfl)
    obtain rfl : R = 20 := by rw [← HR.out]; unfold rightN; rw [if_pos hcn]
    gi_wp2
    refine ⟨.int .i64 20, ?_, rfl, HB4.out.setCell (p := ⟨w.heap.size + 1, 0, none⟩) (by simp) _⟩
    simp [results, Try.f50, go_sem, hcs]
  · have p0 : decide ((1000 : Int) < (m : Int)) = false := decide_eq_false (by omega)
    have HD4 := HD w4 HB4.out (by omega)
    gi_wp2_with fail
    refine ⟨trivial, ?_⟩
    refine (callsIn_wide.2 HD4).mono ?_
    rintro e w5 ⟨v, rfl, hv, hb5⟩
    have hE5 := (hb5.block w.heap.size (by omega)).trans hE4
    have hR5 := (hb5.block (w.heap.size + 1) (by omega)).trans hR4
    have HB5 := Aside0.mk (HB4.out.trans (hb5.mono (by omega)))
    have hz5 : w.heap.size + 2 ≤ w5.heap.size := by have := hb5.size; omega
    clear hE4 hR4 hb5 e0 e1 e2 r0 r1 HD4 HD HB4 hz4
    have e0 : w5.cell? ⟨w.heap.size, 0, none⟩ = some (.int .i64 x0) := (cellAt hE5 0).trans rfl
    have e1 : w5.cell? ⟨w.heap.size, 1, none⟩ = some (.int .i64 x1) := (cellAt hE5 1).trans rfl
    have e2 : w5.cell? ⟨w.heap.size, 2, none⟩ = some (.slice A len c) := (cellAt hE5 2).trans rfl
    have r0 : w5.cell? ⟨w.heap.size + 1, 0, none⟩ = some (.int .i64 0) := (cellAt hR5 0).trans rfl
    have r1 : w5.frozen? ⟨w.heap.size + 1, 0, none⟩ = false := by simp [World.frozen?, hR5]
    by_cases hdp : 100 < v
    · have p1 : decide ((100 : Int) < v) = true := decide_eq_true hdp
      have hcs : (w5.setCell ⟨w.heap.size + 1, 0, none⟩ (.int .i64 21)).cell? ⟨w.heap.size + 1, 0, none⟩ = some (.int .i64 21) := World.cell?_setCell_same' _ _ _ (by rw [r0]; rfl)
      obtain rfl : R = 21 := by rw [← HR.out]; unfold rightN; rw [if_neg hcn, if_pos (hv.1 hdp)]
      gi_wp2
      refine ⟨.int .i64 21, ?_, rfl, HB5.out.setCell (p := ⟨w.heap.size + 1, 0, none⟩) (by simp) _⟩
      simp [results, Try.f50, go_sem, hcs]
    · have p1 : decide ((100 : Int) < v) = false := decide_eq_false hdp
      have hdd : ¬ 100 < dep x.e := fun h => hdp (hv.2 h)
      have hRR : R = if (nds 1 x.e).all (fun p => okn p.2) then 0 else 22 := by rw [← HR.out]; unfold rightN; rw [if_neg hcn, if_neg hdd]
      clear hv hdp
      gi_wp2_with (refine ⟨trivial, ?_⟩; gi_at_call 84; refine (HN _).mono ?_; rintro e w' ⟨rfl, rfl⟩)
      obtain ⟨W3, hW3⟩ : ∃ W3, w5.alloc x.box = W3 := ⟨_, rfl⟩
      have hs3 : W3.heap.size = w5.heap.size + 1 := by rw [← hW3]; simp
      have hB3 : Below w.heap.size w W3 := by rw [← hW3]; exact HB5.out.trans ((Below.refl _ w5).alloc HB5.out.size _)
      have hb3 : W3.heap[w5.heap.size]? = some x.box := by rw [← hW3]; exact World.alloc_heap_new w5 x.box
      have hR3 : W3.heap[w.heap.size + 1]? = some (.cells #[.int .i64 0] 25) := by rw [← hW3]; exact (Below.heap_alloc _ _ _ (by omega)).trans hR5
      rw [hW3]
      have hc0 : W3.cell? ⟨w.heap.size + 1, 0, none⟩ = some (.int .i64 0) := (cellAt hR3 0).trans rfl
      have hf0 : W3.frozen? ⟨w.heap.size + 1, 0, none⟩ = false := by simp [World.frozen?, hR3]
      have hst := HST.out W3 w5.heap.size hb3 hB3
      refine wpIn_rangeFunc_ownH rfl (by decide) (gf := 122) (lb := #[.pointer (some ⟨w5.heap.size, 0, none⟩)]) rfl trivial (enters_of Try.func122 (by kernel_rfl) rfl)
        hst Kpb.trans (kpb_b hB3.size) (Below.refl _ _) (fun _ => rfl)
        (fun pre W => (∀ y ∈ pre, okn y.e = true) ∧ Below W3.heap.size W3 W)
        (fun c pre W => (W.cell? ⟨w.heap.size + 1, 0, none⟩ = some (.int .i64 22) ∧ c = .ret ∧ ∃ y ∈ pre, okn y.e = false) ∧ Below w.heap.size w W)
        (OwnFrom.and (ownFrom_pure _ _) (ownFrom_below (Nat.le_refl _) (Nat.le_refl _)))
        (fun c => OwnFrom.and (Own.from (fun s A B row hs hg hr => ⟨cell_kept hs.1 hg hr, hs.2⟩) _) (ownFrom_below (Nat.le_refl _) hB3.size))
        ⟨by simp, Below.refl _ _⟩
        (fun y a' W => ∃ Bx, W3.heap.size ≤ Bx ∧ W.heap[Bx]? = some y.box ∧ a' = { tmps := #[.agg #[.int .i64 x0, .int .i64 x1, .slice A len c], .pointer (some ⟨w.heap.size, 0, none⟩), .pointer (some ⟨w.heap.size + 1, 0, none⟩), undef, .pointer (some ⟨Bx, 0, none⟩), .agg #[.int .i64 x0, .int .i64 x1, .slice A len c], .int .i64 m, .bool false, .agg #[.int .i64 x0, .int .i64 x1, .slice A len c], .int .i64 v, .bool false, .agg #[.int .i64 x0, .int .i64 x1, .slice A len c], .func (.func 122) #[] #[.pointer (some ⟨w5.heap.size, 0, none⟩)], .int .i64 y.d, y.val, undef, undef, undef], defers := [] })
        (fun y a' => by
          rintro s W W' row ⟨Bx, h1, h2, h3⟩ hg hr
          exact ⟨Bx, h1, kept_block h2 rfl hg (fun r e => (hr r e).2), h3⟩)
        ?assign ?body ?done ?stop
      case assign =>
        rintro l pre y W K ⟨hok, hB⟩ hK
        have hK' := hK _ (W.alloc y.box) ((KeepsOthers.alloc _ _).from _) (Kpb.alloc W y.box (Nat.le_trans hB3.size hB.size)) ⟨hok, hB.trans ((Below.refl _ W).alloc hB.size _)⟩ ⟨W.heap.size, hB.size, World.alloc_heap_new W _, rfl⟩
        clear hK
        unfold Nd.encs Nd.val
        unfold Nd.val at hK'
        gi_wp2
        exact hK'
      case body =>
        rintro l pre y a' W hl ⟨r, hr⟩ ⟨hok, hB⟩ ⟨Bx, hBx, hbx, rfl⟩ hlt
        have hBw := hB3.trans (hB.mono hB3.size)
        have k0 : W.cell? ⟨Bx, 0, none⟩ = some (.int .i64 y.e.f0) := (cellAt hbx 0).trans rfl
        have k1 : W.cell? ⟨Bx, 1, none⟩ = some (.int .i64 y.e.f1) := (cellAt hbx 1).trans rfl
        have k2 : W.cell? ⟨Bx, 2, none⟩ = some (.slice y.A y.e.f2.length y.c) := (cellAt hbx 2).trans rfl
        have HSH := shaped_calls W y.e.f0 y.e.f1 y.A y.c y.e.f2 (Kd.C_below y.reads hBw) y.cap
        rw [eta] at HSH
        have hz3 : w.heap.size + 2 ≤ W3.heap.size := by omega
        gi_wp2_with fail
        refine ⟨trivial, ?_⟩
        refine (CallsIn.inRound l (callsIn_wide.2 HSH)).mono ?_
        rintro e w' ⟨rfl, hb'⟩
        have hB' : Below W3.heap.size W3 w' := hB.trans (hb'.mono hB.size)
        have hR' := (hB'.block (w.heap.size + 1) (by omega)).trans hR3
        have r0 : w'.cell? ⟨w.heap.size + 1, 0, none⟩ = some (.int .i64 0) := (cellAt hR' 0).trans rfl
        have r1 : w'.frozen? ⟨w.heap.size + 1, 0, none⟩ = false := by simp [World.frozen?, hR']
        have hKO := keeps_below hb'
        have hKp : Kpb w.heap.size W3.heap.size W w' := Kpb.of_below hb' (Nat.le_trans hB3.size hB.size)
        cases hy : okn y.e with
        | true =>
          gi_wp2
          refine ⟨hKO.from _, hKp, fun z hz => ?_, hB'⟩
          rcases List.mem_append.1 hz with h1 | h1
          · exact hok z h1
          · rw [List.mem_singleton] at h1; subst h1; exact hy
        | false =>
          have hcs : (w'.setCell ⟨w.heap.size + 1, 0, none⟩ (.int .i64 22)).cell? ⟨w.heap.size + 1, 0, none⟩ = some (.int .i64 22) := World.cell?_setCell_same' _ _ _ (by rw [r0]; rfl)
          gi_wp2
          exact ⟨(hKO.trans (KeepsOthers.setCell _ _ _)).from _, ⟨hcs, rfl, y, by simp, hy⟩, (hB3.trans (hB'.mono hB3.size)).setCell (p := ⟨w.heap.size + 1, 0, none⟩) (by simp) _⟩
      case done =>
        rintro D ys W hD rfl ⟨hok, hB⟩ hK
        have hR' := (hB.block (w.heap.size + 1) (by omega)).trans hR3
        have r0 : W.cell? ⟨w.heap.size + 1, 0, none⟩ = some (.int .i64 0) := (cellAt hR' 0).trans rfl
        have r1 : W.frozen? ⟨w.heap.size + 1, 0, none⟩ = false := by simp [World.frozen?, hR']
        have hall : (nds 1 x.e).all (fun p => okn p.2) = true := by
          rw [← hLs, List.all_map, List.all_eq_true]
          exact hok
        rw [hall, if_pos rfl] at hRR
        subst hRR
        have hBw := hB3.trans (hB.mono hB3.size)
        have hcs : (W.setCell ⟨w.heap.size + 1, 0, none⟩ (.int .i64 0)).cell? ⟨w.heap.size + 1, 0, none⟩ = some (.int .i64 0) := World.cell?_setCell_same' _ _ _ (by rw [r0]; rfl)
        have hK' := (KeepsOthers.setCell W ⟨w.heap.size + 1, 0, none⟩ (.int .i64 0)).same D _ hK rfl
        have hc5 := cell_kept hcs (grownBy_putObj' _ D (.deferred none)) (fun r e => by cases e; exact ⟨_, hK', rfl⟩)
        gi_wp2
        refine ⟨by simp, .inl ⟨_, _, rfl, run_takeDeferred hK', ?_⟩⟩
        refine ⟨.int .i64 0, ?_, rfl, (hBw.setCell (p := ⟨w.heap.size + 1, 0, none⟩) (by simp) _).trans (belowK_b (w := w) (Nat.le_refl _) _ D _ _ (by omega) hK' rfl rfl)⟩
        simp [results, Try.f50, go_sem, hc5]
      case stop =>
        rintro D c pre W hD hpre ⟨⟨hcs, rfl, y, hy, hyo⟩, hB⟩ hK
        have hall : (nds 1 x.e).all (fun p => okn p.2) = false := by
          rw [← hLs, List.all_map, List.all_eq_false]
          exact ⟨y, hpre.subset hy, by simp only [Function.comp, hyo]; exact Bool.false_ne_true⟩
        rw [hall, if_neg (by decide)] at hRR
        subst hRR
        have hc5 := cell_kept hcs (grownBy_putObj' _ D (.deferred none)) (fun r e => by cases e; exact ⟨_, hK, rfl⟩)
        gi_wp2
        refine ⟨by simp, .inl ⟨_, _, rfl, run_takeDeferred hK, ?_⟩⟩
        refine ⟨.int .i64 22, ?_, rfl, hB.trans (belowK_b (w := w) (Nat.le_refl _) _ D _ _ (by omega) hK rfl rfl)⟩
        simp [results, Try.f50, go_sem, hc5]
theorem right_calls (w : World) (x : Nd w) (hx1 : x.d = 1) : Calls Try.prog 50 #[x.val] w fun e W' => e = .returned (.int .i64 (rightN x.e)) ∧ Below w.heap.size w W' :=
  callsIn_wide.1 (right_in w x hx1)
end Go.Proofs.Ytdhdofkpgaibiaa.Ex
namespace Go.Proofs.Ytdhdofkpgaibiaa.Ex
open Go.RowKit Go.Shelf Go.Proofs.YtdhdofkpgaibiaaW.PrintWords Go.Proofs.YtdhdofkpgaibiaaW.PrintLast Go.Proofs.YtdhdofkpgaibiaaW.PrintMore Go.Proofs.Ytdhdofkpgaibiaa.PStampTells
set_option linter.unusedVariables false
set_option linter.unusedSimpArgs false
section
variable {P : Program} {ops : Array Oper} {Q : Exit → Act → World → Prop} {l n : Nat}
theorem oper_in {o : Oper} {a : Act} {w : World} {K : Act → World → Prop} (hd : ∀ c, o.op ≠ .defer c) (hQ : ¬ LetsOut Q) (h : o.wp P a w K Q ∨ (o.asks P a w ∧ LetsOut Q)) : o.wpIn (Fence.wide.inRound l) n P a w K Q := by
  rcases h with h | h
  · unfold Oper.wp at h
    unfold Oper.wpIn
    refine ⟨fun _ _ => trivial, ?_⟩
    rw [Oper.semAt_plain _ _ _ hd]
    generalize (execOp a.eval o).run P w = r at h
    cases r with
    | ok x w' =>
      cases x <;> simp only [Oper.upon] at h <;> simp only [Oper.uponIn]
      all_goals first | exact h | exact h.elim | skip
      · refine ⟨fun hd => ?_, CallsIn.inRound l (callsIn_wide.2 h)⟩
        cases hd
      · refine ⟨fun hd => ?_, fun cs hr_frame _ => ?_⟩
        · cases hd
        · obtain ⟨v, w2, r, st⟩ := h cs hr_frame
          exact ⟨v, w2, r, stepsIn_wide.2 st⟩
    | halt x w' => cases x <;> simp only [Oper.upon] at h <;> simp only [Oper.uponIn] <;> first | exact h | exact h.elim
  · exact absurd h.2 hQ
theorem any_in (hd : ∀ (i : Nat) (o : Oper), ops[i]? = some o → ∀ c, o.op ≠ .defer c) (hQ : ¬ LetsOut Q) : ∀ (fuel : Nat) (listed : Array Bool) (a : Act) (w : World), wpAny P .any ops Q fuel listed a w → wpAnyIn (Fence.wide.inRound l) n P .any ops Q fuel listed a w
  | 0, _, _, _, h => h
  | fuel + 1, listed, a, w, h => ⟨h.1, fun i hi => by
    have h2 := wpOp_mono (fun a' w' h' => any_in hd hQ fuel _ a' w' h') (h.2 i hi)
    unfold wpOp at h2
    unfold wpOpIn
    split
    · rename_i ho
      simpa only [ho] using h2
    · rename_i o ho
      simp only [ho] at h2
      split
      · rename_i hw
        simp only [hw, if_true] at h2
        exact oper_in (hd i o ho) hQ h2
      · rename_i hw
        simp only [hw] at h2
        exact ⟨fun _ _ => trivial, h2⟩⟩
/-- A drawn region in a round: it is enough to walk it with the plain walk's steps. -/
theorem region_in {S : World → Prop} {ds : List Nat} {id k : Nat} {a : Act} {w : World} (ls : Array Bool) (hm : P.follows .mixedOrders = true) (hd : ∀ (i : Nat) (o : Oper), ops[i]? = some o → ∀ c, o.op ≠ .defer c) (hQ : ¬ LetsOut Q) (hn : ops.size = k) (hl : Array.replicate k false = ls) (hS : S w.drew)
    (h : S w.drew → wpAnyLast P .any ops Q S ds k ls a w.drew) : (Code.region id ops true).wpIn (Fence.wide.inRound l) n P Q a w := by
  subst hn
  subst hl
  exact wpIn_region_any hm (any_in hd hQ _ _ _ _ (wpAny_of_last _ _ _ _ (h hS)))
end
end Go.Proofs.Ytdhdofkpgaibiaa.Ex
