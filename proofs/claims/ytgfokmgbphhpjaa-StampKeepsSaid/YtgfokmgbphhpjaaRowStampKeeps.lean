/- Proved: for every int bits and every slice of rows of bytes, StampKeeps returns true: no condition. -/
import Derived.Test.YtgfokmgbphhpjaaRows
import Derived.Test.YtgfokmgbphhpjaaStLawKeeps
import Derived.Test.YtgfokmgbphhpjaaStArgR
import Derived.WalkKit
import Derived.ProofKit
import Derived.OpenShut
import Derived.ShutString
import Derived.ChangeOld
import Derived.Below
import Derived.SizedLaws
import Derived.Lib.SmallJoins
namespace Go.Proofs.Ytgfokmgbphhpjaa.stampKeeps
open Go.ChangeShapes Go.WideShapes Go.ChangeAt Go.RowKit Go.Joins
open Go.Proofs.YtgfokmgbphhpjaaW
set_option linter.unusedVariables false
theorem own : ownKnob Try.prog.godebug = none := by kernel_rfl
theorem laidOut : laidOutB Try.prog = true := by kernel_rfl
set_option maxRecDepth 100000 in
theorem lifted (os : Os) (started : os.Started) (H : Type) (enc : TypeId × Value → H) :
    ReturnsInHanded {} Try.checked os 5 .any (Rows.stampKeepsSpec.pre6 enc Try.prog Try.f5 Rows.stampKeepsRow.domain false) (Rows.stampKeepsSpec.post enc Try.prog Try.f5 false true false false) := by
  refine returnsInHanded_of_change_sized (C := Try.checked) own started (by kernel_rfl) Try.func5
    (ChangeSpec.witness6 (enc := enc) (C := Try.checked) false ⟨#[], #[.int .i64 0, .slice none 0 0], []⟩ 8 (by kernel_rfl) (by kernel_rfl) (by kernel_rfl) (by kernel_rfl)) ?_
  intro W base args ds gs before hval0 hW hcnd hsz0 _
  have hval : ∀ (j : Nat) t v, Try.f5.params[j]? = some t → args[j]? = some v → Value.okWide Try.prog W .any base t v := hval0
  have hW' := hW
  obtain ⟨p, q, hA0, hV, rfl, hfz, hnd⟩ := hW
  have hA : DataW.TrodAll enc Try.prog W 0 (fun _ => true) true Try.f5.params.toList args.toList ds p := hA0
  have hsz : (DataW.weightsEach Try.prog (Try.f5.params.toList ++ DataSpec.varTypes Try.prog Rows.stampKeepsSpec.plain) (ds ++ gs)).all (· ≤ reachBytes) = true := hsz0
  rw [Try.params5] at hA hval hsz
  obtain ⟨v0, vs0, d0, ds0, p0, q0, hargs, rfl, rfl, h0, r0⟩ := trodAll_cons hA
  obtain ⟨v1, vs1, d1, ds1, p1, q1, rfl, rfl, rfl, h1, r1⟩ := trodAll_cons r0
  obtain ⟨rfl, rfl, rfl⟩ := trodAll_nil r1
  obtain rfl : args = #[v0, v1] := by cases args; simp_all
  obtain ⟨rfl, rfl⟩ := trodVars_none hV
  have k0 := h0
  have lt0 : ∀ x ∈ p0, x.block < W.heap.size := by obtain ⟨m, hm⟩ := k0; exact DataW.trod_lt m _ _ _ hm
  have k1 := h1
  have lt1 : ∀ x ∈ p1, x.block < W.heap.size := by obtain ⟨m, hm⟩ := k1; exact DataW.trod_lt m _ _ _ hm
  obtain ⟨x0, rfl⟩ : ∃ x, v0 = .int .i64 x := okWide_int Try.underlying3 (hval 0 3 v0 rfl rfl)
  have w1 : ∀ m ∈ d1.weights Try.prog 35, m ≤ reachBytes := fun m hm => by
    have := List.all_eq_true.1 hsz m (DataW.weights_mem_each (j := 1) (t := 35) rfl rfl m hm)
    simpa using this
  obtain ⟨a1, len1, cap1, rfl⟩ := okWide_slice Try.underlying35 (hval 1 35 v1 rfl rfl)
  obtain ⟨A1, l1, c1, e1, hC1, hc1, hl1, hb1⟩ : ∃ A l c', (Value.slice a1 len1 cap1) = .slice A l.length c' ∧ PrintWords.Kd.C (PrintWords.Kd.slice 5 (PrintWords.Kd.int .u8)) W A l.length l ∧ l.length ≤ c' ∧ l.length ≤ 5864062014634 ∧ ∀ r ∈ l, r.length ≤ 140737488351232 ∧ ∀ x ∈ r, 0 ≤ x ∧ x < 256 := by
    obtain ⟨fuel, hf⟩ := h1
    exact StS.rows_open (fun _ => rfl) hf w1
  obtain ⟨ea1, el1, ec1⟩ := Value.slice.inj e1
  subst ea1 el1 ec1
  clear hA0 hval0 hsz0 hsz
  refine (St.keeps_walk W x0 a1 cap1 l1 hC1 hc1 hl1 hb1).mono fun e W' ⟨he, bel⟩ => ?_
  subst he
  exact ⟨_, rfl, _, _, _, [], _, [], hW', trodAll_mk1 (shut_bool Try.underlying4 _), (trodAll_cons_mk (Below.trod laidOut (by kernel_rfl) (of_decide_eq_true (by kernel_rfl)) k0 bel lt0) (trodAll_cons_mk (Below.trod laidOut (by kernel_rfl) (of_decide_eq_true (by kernel_rfl)) k1 bel lt1) trodAll_mk0)), rfl, bel.frame _, fun h => by cases h⟩
theorem over : Rows.stampKeepsRow.holds Try.pinned (OpenSpec.ofChange Rows.stampKeepsSpec) :=
  OpenClaim.holds_of_wide 5 Try.f5 rfl rfl rfl rfl rfl rfl rfl ⟨rfl, rfl, rfl, rfl, rfl⟩ rfl rfl rfl rfl rfl (by kernel_rfl) Try.func5 (by kernel_rfl)
    (of_decide_eq_true (by kernel_rfl)) (by unfold Func.isWrapper; first | (rw [if_pos (by decide +kernel)]; kernel_rfl) | (rw [if_neg (by decide +kernel)]; exact ⟨rfl, rfl⟩))
    (fun os started H enc _ => lifted os started H enc)
theorem proved : Rows.StampKeepsSaid := over
#print axioms proved
end Go.Proofs.Ytgfokmgbphhpjaa.stampKeeps
namespace Go.Proofs.Ytgfokmgbphhpjaa
/-- The row, under a short name, for the claim. -/
theorem stampKeeps_holds : Rows.StampKeepsSaid := stampKeeps.proved
end Go.Proofs.Ytgfokmgbphhpjaa
