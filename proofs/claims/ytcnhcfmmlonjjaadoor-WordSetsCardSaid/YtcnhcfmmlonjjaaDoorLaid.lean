/- What the listed table gives the walks: its 64 cells; and the door's own heap has them. -/
import Derived.Test.YtcnhcfmmlonjjaaDoorRows
import Derived.Test.YtcnhcfmmlonjjaaDoorTz
import Derived.ProofKit
import Derived.LaidMore
import Derived.OpenShut
import Derived.Stop.Joined
namespace Go.Proofs.YtcnhcfmmlonjjaaDoor.Tz
open Go.ChangeShapes Go.WideShapes Go.ChangeAt Go.RowKit
theorem gTab : Tryd.prog.globalNamed "math/bits.deBruijn64tab" = some 0 := by kernel_rfl
theorem tTab : (Tryd.prog.globals[0]?).map (·.type) = some 37 := by kernel_rfl
theorem cTab : Tryd.prog.cellsOf 5 = 1 := by kernel_rfl
theorem laid_eq : (Rows.laid_math_bits_deBruijn64tab : DataW Unit) = .agg (Lib.deBruijn64tab.map fun (k : Nat) => .lit (.int .u8 (k : Int))) := rfl
theorem tab_of_laid {W : World} (h : laidMetH Tryd.prog [("math/bits.deBruijn64tab", Rows.laid_math_bits_deBruijn64tab)] W) : Tab W := by
  rw [MakeChecks.laidMetH_plain _ _ _ (by kernel_rfl)] at h
  obtain ⟨ps, ⟨g0, t0, cs0, f0, p0, q0, hg0, ht0, hv0, hd0, _, _⟩, _⟩ := h
  obtain rfl := Option.some.inj (gTab.symm.trans hg0)
  obtain rfl := Option.some.inj (tTab.symm.trans ht0)
  obtain ⟨xs, m1, rfl, hx1, hlen, hn, hel⟩ := DataW.trod_array Tryd.underlying37 hd0
  rw [laid_eq] at hx1
  simp only [Prod.mk.injEq, DataW.agg.injEq] at hx1
  intro j hj
  have hj64 : j < 64 := hj
  rw [World.var?_cell hg0 hv0 j]
  have he := hel j hj64
  have hxj : xs[j]? = some (xs[j]'(by omega)) := List.getElem?_eq_getElem (by omega)
  rw [hxj, cTab, Nat.mul_one] at he
  obtain ⟨n, e1, e2, _⟩ := DataW.trod_int Tryd.underlying5 he
  have hm := congrArg (fun l => l[j]?) hx1.1
  simp only [List.getElem?_map, hxj, Option.map_some, List.getElem?_eq_getElem hj] at hm
  rw [e2] at hm
  have hnk : n = ((Lib.deBruijn64tab[j]'hj : Nat) : Int) := by
    have h5 := Option.some.inj hm
    have h6 := DataW.lit.inj h5
    have h7 := Lit.int.inj h6
    exact h7.2.symm
  have hc : cs0.toList[j]? = some (Value.int .u8 n) := by
    have := congrArg (fun l => l[0]?) e1
    simpa [List.getElem?_take, List.getElem?_drop] using this
  have hd : Lib.deBruijn64tab.getD j 0 = Lib.deBruijn64tab[j]'hj := by
    rw [List.getD_eq_getElem?_getD, List.getElem?_eq_getElem hj]; rfl
  rw [hd, ← hnk, ← Array.getElem?_toList]
  exact hc
theorem own : ownKnob Tryd.prog.godebug = none := by kernel_rfl
theorem door_met (os : Os) (args : Array Value) : laidMetH Tryd.prog [("math/bits.deBruijn64tab", Rows.laid_math_bits_deBruijn64tab)] ((World.doorLaid Tryd.prog 43 os).forCall (fun _ _ => 0) ⟨#[], args, []⟩).memory :=
  laidMetH_of_parts3 (fuel := 8) (laidMet_of_run' 8 (by kernel_rfl) (by kernel_rfl)) (by kernel_rfl) (by kernel_rfl)
end Go.Proofs.YtcnhcfmmlonjjaaDoor.Tz
