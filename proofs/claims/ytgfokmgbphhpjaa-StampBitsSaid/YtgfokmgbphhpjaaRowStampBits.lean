/- Proved: for every two ints and every slice of rows of bytes, StampBits returns true: no condition. -/
import Derived.Test.YtgfokmgbphhpjaaRows
import Derived.Test.YtgfokmgbphhpjaaStLawBits
import Derived.Test.YtgfokmgbphhpjaaStArgR
import Derived.WalkKit
import Derived.ProofKit
import Derived.OpenShut
import Derived.ShutString
import Derived.ChangeOld
import Derived.Below
import Derived.SizedLaws
import Derived.Lib.SmallJoins
namespace Go.Proofs.Ytgfokmgbphhpjaa.stampBits
open Go.ChangeShapes Go.WideShapes Go.ChangeAt Go.RowKit Go.Joins
open Go.Proofs.YtgfokmgbphhpjaaW
set_option linter.unusedVariables false
theorem own : ownKnob Try.prog.godebug = none := by kernel_rfl
theorem laidOut : laidOutB Try.prog = true := by kernel_rfl
set_option maxRecDepth 100000 in
theorem lifted (os : Os) (started : os.Started) (H : Type) (enc : TypeId × Value → H) :
    ReturnsInHanded {} Try.checked os 4 .any (Rows.stampBitsSpec.pre6 enc Try.prog Try.f4 Rows.stampBitsRow.domain false) (Rows.stampBitsSpec.post enc Try.prog Try.f4 false true false false) := by
  refine returnsInHanded_of_change_sized (C := Try.checked) own started (by kernel_rfl) Try.func4
    (ChangeSpec.witness6 (enc := enc) (C := Try.checked) false ⟨#[], #[.int .i64 0, .int .i64 0, .slice none 0 0], []⟩ 8 (by kernel_rfl) (by kernel_rfl) (by kernel_rfl) (by kernel_rfl)) ?_
  intro W base args ds gs before hval0 hW hcnd hsz0 _
  have hval : ∀ (j : Nat) t v, Try.f4.params[j]? = some t → args[j]? = some v → Value.okWide Try.prog W .any base t v := hval0
  have hW' := hW
  obtain ⟨p, q, hA0, hV, rfl, hfz, hnd⟩ := hW
  have hA : DataW.TrodAll enc Try.prog W 0 (fun _ => true) true Try.f4.params.toList args.toList ds p := hA0
  have hsz : (DataW.weightsEach Try.prog (Try.f4.params.toList ++ DataSpec.varTypes Try.prog Rows.stampBitsSpec.plain) (ds ++ gs)).all (· ≤ reachBytes) = true := hsz0
  rw [Try.params4] at hA hval hsz
  obtain ⟨v0, vs0, d0, ds0, p0, q0, hargs, rfl, rfl, h0, r0⟩ := trodAll_cons hA
  obtain ⟨v1, vs1, d1, ds1, p1, q1, rfl, rfl, rfl, h1, r1⟩ := trodAll_cons r0
  obtain ⟨v2, vs2, d2, ds2, p2, q2, rfl, rfl, rfl, h2, r2⟩ := trodAll_cons r1
  obtain ⟨rfl, rfl, rfl⟩ := trodAll_nil r2
  obtain rfl : args = #[v0, v1, v2] := by cases args; simp_all
  obtain ⟨rfl, rfl⟩ := trodVars_none hV
  have k0 := h0
  have lt0 : ∀ x ∈ p0, x.block < W.heap.size := by obtain ⟨m, hm⟩ := k0; exact DataW.trod_lt m _ _ _ hm
  have k1 := h1
  have lt1 : ∀ x ∈ p1, x.block < W.heap.size := by obtain ⟨m, hm⟩ := k1; exact DataW.trod_lt m _ _ _ hm
  have k2 := h2
  have lt2 : ∀ x ∈ p2, x.block < W.heap.size := by obtain ⟨m, hm⟩ := k2; exact DataW.trod_lt m _ _ _ hm
  obtain ⟨x0, rfl⟩ : ∃ x, v0 = .int .i64 x := okWide_int Try.underlying3 (hval 0 3 v0 rfl rfl)
  obtain ⟨x1, rfl⟩ : ∃ x, v1 = .int .i64 x := okWide_int Try.underlying3 (hval 1 3 v1 rfl rfl)
  have w2 : ∀ m ∈ d2.weights Try.prog 35, m ≤ reachBytes := fun m hm => by
    have := List.all_eq_true.1 hsz m (DataW.weights_mem_each (j := 2) (t := 35) rfl rfl m hm)
    simpa using this
  obtain ⟨a2, len2, cap2, rfl⟩ := okWide_slice Try.underlying35 (hval 2 35 v2 rfl rfl)
  obtain ⟨A2, l2, c2, e2, hC2, hc2, hl2, hb2⟩ : ∃ A l c', (Value.slice a2 len2 cap2) = .slice A l.length c' ∧ PrintWords.Kd.C (PrintWords.Kd.slice 5 (PrintWords.Kd.int .u8)) W A l.length l ∧ l.length ≤ c' ∧ l.length ≤ 5864062014634 ∧ ∀ r ∈ l, r.length ≤ 140737488351232 ∧ ∀ x ∈ r, 0 ≤ x ∧ x < 256 := by
    obtain ⟨fuel, hf⟩ := h2
    exact StS.rows_open (fun _ => rfl) hf w2
  obtain ⟨ea2, el2, ec2⟩ := Value.slice.inj e2
  subst ea2 el2 ec2
  clear hA0 hval0 hsz0 hsz
  refine (St.bits_walk W x0 x1 a2 cap2 l2 hC2 hc2 hl2 hb2).mono fun e W' ⟨he, bel⟩ => ?_
  subst he
  exact ⟨_, rfl, _, _, _, [], _, [], hW', trodAll_mk1 (shut_bool Try.underlying4 _), (trodAll_cons_mk (Below.trod laidOut (by kernel_rfl) (of_decide_eq_true (by kernel_rfl)) k0 bel lt0) (trodAll_cons_mk (Below.trod laidOut (by kernel_rfl) (of_decide_eq_true (by kernel_rfl)) k1 bel lt1) (trodAll_cons_mk (Below.trod laidOut (by kernel_rfl) (of_decide_eq_true (by kernel_rfl)) k2 bel lt2) trodAll_mk0))), rfl, bel.frame _, fun h => by cases h⟩
theorem over : Rows.stampBitsRow.holds Try.pinned (OpenSpec.ofChange Rows.stampBitsSpec) :=
  OpenClaim.holds_of_wide 4 Try.f4 rfl rfl rfl rfl rfl rfl rfl ⟨rfl, rfl, rfl, rfl, rfl⟩ rfl rfl rfl rfl rfl (by kernel_rfl) Try.func4 (by kernel_rfl)
    (of_decide_eq_true (by kernel_rfl)) (by unfold Func.isWrapper; first | (rw [if_pos (by decide +kernel)]; kernel_rfl) | (rw [if_neg (by decide +kernel)]; exact ⟨rfl, rfl⟩))
    (fun os started H enc _ => lifted os started H enc)
theorem proved : Rows.StampBitsSaid := over
#print axioms proved
end Go.Proofs.Ytgfokmgbphhpjaa.stampBits
namespace Go.Proofs.Ytgfokmgbphhpjaa
/-- The row, under a short name, for the claim. -/
theorem stampBits_holds : Rows.StampBitsSaid := stampBits.proved
end Go.Proofs.Ytgfokmgbphhpjaa
