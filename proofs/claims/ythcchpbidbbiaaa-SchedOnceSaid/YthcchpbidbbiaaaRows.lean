/-
  No cell of these rows narrows 'for every input' (looked for: loops, veiled, ifaces, maps, wideKeys, modest, calm, conditions, laid).
  DERIVED. THE GIVEN ROWS OF THIS SEAT. 9 by the template 'for every input the law returns true; each argument reads behind the call as it read before'; 0 by the template 'total and deterministic' (their statements: YthcchpbidbbiaaaTotals.lean).
  GIVEN WITH THE SEED: the statements are not yours to turn. If you find one false, say at which input.
  Laid BY PROGRAM, IN A SANDBOX (cutbox-rows.mjs): the forced cells as the released guide's own fill.sh prints them over the translation b3d52ae401aeedf9… (all of the seat's roots in one cut). By AI agents, Wed Nov 11 2026. No macro, syntax, notation, axiom, sorry.
-/
import Derived.Test.YthcchpbidbbiaaaChecked
import GoSem.Claim
import GoSem.ClaimJoined
import GoSem.ClaimMapViews
import Derived.JoinedTies
import Derived.KernelRfl
namespace Go.Proofs.Ythcchpbidbbiaaa
/- THE CELL 'sum', in the pinned program and in every row, IS THE sha256 OF THE DUMP (.gsa) THAT YthcchpbidbbiaaaProg.lean LOADS. Nothing in Lean hashes anything: it is a label: what it is worth is what the hold of that sum in a sandbox is worth. -/
noncomputable def Try.pinned : Pinned := { name := "ythcchpbidbbiaaa", sum := "b3d52ae401aeedf9636cbc35c74993bb7d29d1d5d2def872ec609f91fcb83161", checked := Try.checked }
namespace Rows
def none {H : Type} : Left H := { results := [], args := [] }

/-- 'organonlaw18.SchedWideTells': WHATEVER THE INPUT: true; the input reads as it did. -/
def schedWideTellsSpec : ChangeSpec := { name := "schedWideTells", fn := fun _ => fun
  | [d1, d2] => { results := [.lit (.bool true)], args := [d1, d2] }
  | _ => none }
def schedWideTellsRow : OpenClaim := { program := "ythcchpbidbbiaaa", sum := "b3d52ae401aeedf9636cbc35c74993bb7d29d1d5d2def872ec609f91fcb83161", func := "organon/organonlaw18.SchedWideTells", spec := "schedWideTells", unfollowed := true, recurses := true, apart := false }
def SchedWideTellsSaid : Prop := schedWideTellsRow.holds Try.pinned (OpenSpec.ofChange schedWideTellsSpec)

/-- ITS FALSE NEIGHBOUR: 'it returns false'. Refute it at one input. -/
def schedWideTellsWrong : ChangeSpec := { name := "schedWideTells", fn := fun _ => fun
  | [d1, d2] => { results := [.lit (.bool false)], args := [d1, d2] }
  | _ => none }
def SchedWideTellsWrongFalsely : Prop := schedWideTellsRow.holds Try.pinned (OpenSpec.ofChange schedWideTellsWrong)

/-- 'organonlaw18.SchedOnce': WHATEVER THE INPUT: true; the input reads as it did. -/
def schedOnceSpec : ChangeSpec := { name := "schedOnce", fn := fun _ => fun
  | [d] => { results := [.lit (.bool true)], args := [d] }
  | _ => none }
def schedOnceRow : OpenClaim := { program := "ythcchpbidbbiaaa", sum := "b3d52ae401aeedf9636cbc35c74993bb7d29d1d5d2def872ec609f91fcb83161", func := "organon/organonlaw18.SchedOnce", spec := "schedOnce", unfollowed := true, recurses := true, apart := false }
def SchedOnceSaid : Prop := schedOnceRow.holds Try.pinned (OpenSpec.ofChange schedOnceSpec)

/-- ITS FALSE NEIGHBOUR: 'it returns false'. Refute it at one input. -/
def schedOnceWrong : ChangeSpec := { name := "schedOnce", fn := fun _ => fun
  | [d] => { results := [.lit (.bool false)], args := [d] }
  | _ => none }
def SchedOnceWrongFalsely : Prop := schedOnceRow.holds Try.pinned (OpenSpec.ofChange schedOnceWrong)

/-- 'organonlaw18.SchedStops': WHATEVER THE INPUT: true; the input reads as it did. -/
def schedStopsSpec : ChangeSpec := { name := "schedStops", fn := fun _ => fun
  | [d1, d2] => { results := [.lit (.bool true)], args := [d1, d2] }
  | _ => none }
def schedStopsRow : OpenClaim := { program := "ythcchpbidbbiaaa", sum := "b3d52ae401aeedf9636cbc35c74993bb7d29d1d5d2def872ec609f91fcb83161", func := "organon/organonlaw18.SchedStops", spec := "schedStops", unfollowed := true, recurses := true, apart := false }
def SchedStopsSaid : Prop := schedStopsRow.holds Try.pinned (OpenSpec.ofChange schedStopsSpec)

/-- ITS FALSE NEIGHBOUR: 'it returns false'. Refute it at one input. -/
def schedStopsWrong : ChangeSpec := { name := "schedStops", fn := fun _ => fun
  | [d1, d2] => { results := [.lit (.bool false)], args := [d1, d2] }
  | _ => none }
def SchedStopsWrongFalsely : Prop := schedStopsRow.holds Try.pinned (OpenSpec.ofChange schedStopsWrong)

/-- 'organonlaw18.SchedWide': WHATEVER THE INPUT: true; the input reads as it did. -/
def schedWideSpec : ChangeSpec := { name := "schedWide", fn := fun _ => fun
  | [d] => { results := [.lit (.bool true)], args := [d] }
  | _ => none }
def schedWideRow : OpenClaim := { program := "ythcchpbidbbiaaa", sum := "b3d52ae401aeedf9636cbc35c74993bb7d29d1d5d2def872ec609f91fcb83161", func := "organon/organonlaw18.SchedWide", spec := "schedWide", unfollowed := true, recurses := true, apart := false }
def SchedWideSaid : Prop := schedWideRow.holds Try.pinned (OpenSpec.ofChange schedWideSpec)

/-- ITS FALSE NEIGHBOUR: 'it returns false'. Refute it at one input. -/
def schedWideWrong : ChangeSpec := { name := "schedWide", fn := fun _ => fun
  | [d] => { results := [.lit (.bool false)], args := [d] }
  | _ => none }
def SchedWideWrongFalsely : Prop := schedWideRow.holds Try.pinned (OpenSpec.ofChange schedWideWrong)

/-- 'organonlaw18.SchedFull': WHATEVER THE INPUT: true; the input reads as it did. -/
def schedFullSpec : ChangeSpec := { name := "schedFull", fn := fun _ => fun
  | [d] => { results := [.lit (.bool true)], args := [d] }
  | _ => none }
def schedFullRow : OpenClaim := { program := "ythcchpbidbbiaaa", sum := "b3d52ae401aeedf9636cbc35c74993bb7d29d1d5d2def872ec609f91fcb83161", func := "organon/organonlaw18.SchedFull", spec := "schedFull", unfollowed := true, recurses := true, apart := false }
def SchedFullSaid : Prop := schedFullRow.holds Try.pinned (OpenSpec.ofChange schedFullSpec)

/-- ITS FALSE NEIGHBOUR: 'it returns false'. Refute it at one input. -/
def schedFullWrong : ChangeSpec := { name := "schedFull", fn := fun _ => fun
  | [d] => { results := [.lit (.bool false)], args := [d] }
  | _ => none }
def SchedFullWrongFalsely : Prop := schedFullRow.holds Try.pinned (OpenSpec.ofChange schedFullWrong)

/-- 'organonlaw18.SchedEnds': WHATEVER THE INPUT: true; the input reads as it did. -/
def schedEndsSpec : ChangeSpec := { name := "schedEnds", fn := fun _ => fun
  | [d] => { results := [.lit (.bool true)], args := [d] }
  | _ => none }
def schedEndsRow : OpenClaim := { program := "ythcchpbidbbiaaa", sum := "b3d52ae401aeedf9636cbc35c74993bb7d29d1d5d2def872ec609f91fcb83161", func := "organon/organonlaw18.SchedEnds", spec := "schedEnds", unfollowed := true, recurses := true, apart := false }
def SchedEndsSaid : Prop := schedEndsRow.holds Try.pinned (OpenSpec.ofChange schedEndsSpec)

/-- ITS FALSE NEIGHBOUR: 'it returns false'. Refute it at one input. -/
def schedEndsWrong : ChangeSpec := { name := "schedEnds", fn := fun _ => fun
  | [d] => { results := [.lit (.bool false)], args := [d] }
  | _ => none }
def SchedEndsWrongFalsely : Prop := schedEndsRow.holds Try.pinned (OpenSpec.ofChange schedEndsWrong)

/-- 'organonlaw18.SchedPlays': WHATEVER THE INPUT: true; the input reads as it did. -/
def schedPlaysSpec : ChangeSpec := { name := "schedPlays", fn := fun _ => fun
  | [d1, d2, d3] => { results := [.lit (.bool true)], args := [d1, d2, d3] }
  | _ => none }
def schedPlaysRow : OpenClaim := { program := "ythcchpbidbbiaaa", sum := "b3d52ae401aeedf9636cbc35c74993bb7d29d1d5d2def872ec609f91fcb83161", func := "organon/organonlaw18.SchedPlays", spec := "schedPlays", unfollowed := true, recurses := true, apart := false }
def SchedPlaysSaid : Prop := schedPlaysRow.holds Try.pinned (OpenSpec.ofChange schedPlaysSpec)

/-- ITS FALSE NEIGHBOUR: 'it returns false'. Refute it at one input. -/
def schedPlaysWrong : ChangeSpec := { name := "schedPlays", fn := fun _ => fun
  | [d1, d2, d3] => { results := [.lit (.bool false)], args := [d1, d2, d3] }
  | _ => none }
def SchedPlaysWrongFalsely : Prop := schedPlaysRow.holds Try.pinned (OpenSpec.ofChange schedPlaysWrong)

/-- 'organonlaw18.SchedSide': WHATEVER THE INPUT: true; the input reads as it did. -/
def schedSideSpec : ChangeSpec := { name := "schedSide", fn := fun _ => fun
  | [d1, d2, d3] => { results := [.lit (.bool true)], args := [d1, d2, d3] }
  | _ => none }
def schedSideRow : OpenClaim := { program := "ythcchpbidbbiaaa", sum := "b3d52ae401aeedf9636cbc35c74993bb7d29d1d5d2def872ec609f91fcb83161", func := "organon/organonlaw18.SchedSide", spec := "schedSide", unfollowed := true, recurses := true, apart := false }
def SchedSideSaid : Prop := schedSideRow.holds Try.pinned (OpenSpec.ofChange schedSideSpec)

/-- ITS FALSE NEIGHBOUR: 'it returns false'. Refute it at one input. -/
def schedSideWrong : ChangeSpec := { name := "schedSide", fn := fun _ => fun
  | [d1, d2, d3] => { results := [.lit (.bool false)], args := [d1, d2, d3] }
  | _ => none }
def SchedSideWrongFalsely : Prop := schedSideRow.holds Try.pinned (OpenSpec.ofChange schedSideWrong)

/-- 'organonlaw18.SchedCopies': WHATEVER THE INPUT: true; the input reads as it did. -/
def schedCopiesSpec : ChangeSpec := { name := "schedCopies", fn := fun _ => fun
  | [d1, d2] => { results := [.lit (.bool true)], args := [d1, d2] }
  | _ => none }
def schedCopiesRow : OpenClaim := { program := "ythcchpbidbbiaaa", sum := "b3d52ae401aeedf9636cbc35c74993bb7d29d1d5d2def872ec609f91fcb83161", func := "organon/organonlaw18.SchedCopies", spec := "schedCopies", unfollowed := true, recurses := true, apart := false }
def SchedCopiesSaid : Prop := schedCopiesRow.holds Try.pinned (OpenSpec.ofChange schedCopiesSpec)

/-- ITS FALSE NEIGHBOUR: 'it returns false'. Refute it at one input. -/
def schedCopiesWrong : ChangeSpec := { name := "schedCopies", fn := fun _ => fun
  | [d1, d2] => { results := [.lit (.bool false)], args := [d1, d2] }
  | _ => none }
def SchedCopiesWrongFalsely : Prop := schedCopiesRow.holds Try.pinned (OpenSpec.ofChange schedCopiesWrong)

/- THE SECOND FORM. 'bulk': how many values and letters a reading holds, each counted each time it is reached (what is shared counts as often as it is met; a slice's spare places count too). A statement '..UptoSaid' is the law's where the arguments, and the package variables that the reading takes, are together of bulk at most 1048576: NARROWER than '..Said'. Prove '..Said' where nothing that the law and all that it calls make is longer than what came in: it says more and counts as full. Else prove '..UptoSaid'. A law counts once. -/
mutual
def uptoBulk {H : Type} : DataW H → Nat
  | .lit (.string bytes) => bytes.length + 1
  | .lit _ => 1
  | .nil => 1
  | .ptr d => uptoBulk d + 1
  | .slice elems spare => uptoBulkAll elems + uptoBulkAll spare + 1
  | .agg parts => uptoBulkAll parts + 1
  | .iface _ d => uptoBulk d + 1
  | .map entries => uptoBulkEntries entries + 1
  | .held _ => 1
def uptoBulkAll {H : Type} : List (DataW H) → Nat
  | [] => 0
  | d :: r => uptoBulk d + uptoBulkAll r
def uptoBulkEntries {H : Type} : List (Lit × DataW H) → Nat
  | [] => 0
  | x :: r => uptoBulkEntry x + uptoBulkEntries r
def uptoBulkEntry {H : Type} : Lit × DataW H → Nat
  | (.string bytes, d) => bytes.length + uptoBulk d + 1
  | (_, d) => uptoBulk d + 1
 end
def uptoSmall : (H : Type) → List (DataW H) → Bool := fun _ ds => decide (uptoBulkAll ds ≤ 1048576)
def OpenSpec.upto (s : _root_.Go.ChangeSpec) : _root_.Go.OpenSpec := { _root_.Go.OpenSpec.ofChange s with cond := some uptoSmall }

/-- 'organonlaw18.SchedWideTells', WHERE WHAT IT READS IS OF BULK AT MOST 1048576: true; the input reads as it did. -/
def schedWideTellsUptoRow : OpenClaim := { program := "ythcchpbidbbiaaa", sum := "b3d52ae401aeedf9636cbc35c74993bb7d29d1d5d2def872ec609f91fcb83161", func := "organon/organonlaw18.SchedWideTells", spec := "schedWideTells", unfollowed := true, recurses := true, apart := false, narrowed := true }
def SchedWideTellsUptoSaid : Prop := schedWideTellsUptoRow.holds Try.pinned (OpenSpec.upto schedWideTellsSpec)

/-- 'organonlaw18.SchedOnce', WHERE WHAT IT READS IS OF BULK AT MOST 1048576: true; the input reads as it did. -/
def schedOnceUptoRow : OpenClaim := { program := "ythcchpbidbbiaaa", sum := "b3d52ae401aeedf9636cbc35c74993bb7d29d1d5d2def872ec609f91fcb83161", func := "organon/organonlaw18.SchedOnce", spec := "schedOnce", unfollowed := true, recurses := true, apart := false, narrowed := true }
def SchedOnceUptoSaid : Prop := schedOnceUptoRow.holds Try.pinned (OpenSpec.upto schedOnceSpec)

/-- 'organonlaw18.SchedStops', WHERE WHAT IT READS IS OF BULK AT MOST 1048576: true; the input reads as it did. -/
def schedStopsUptoRow : OpenClaim := { program := "ythcchpbidbbiaaa", sum := "b3d52ae401aeedf9636cbc35c74993bb7d29d1d5d2def872ec609f91fcb83161", func := "organon/organonlaw18.SchedStops", spec := "schedStops", unfollowed := true, recurses := true, apart := false, narrowed := true }
def SchedStopsUptoSaid : Prop := schedStopsUptoRow.holds Try.pinned (OpenSpec.upto schedStopsSpec)

/-- 'organonlaw18.SchedWide', WHERE WHAT IT READS IS OF BULK AT MOST 1048576: true; the input reads as it did. -/
def schedWideUptoRow : OpenClaim := { program := "ythcchpbidbbiaaa", sum := "b3d52ae401aeedf9636cbc35c74993bb7d29d1d5d2def872ec609f91fcb83161", func := "organon/organonlaw18.SchedWide", spec := "schedWide", unfollowed := true, recurses := true, apart := false, narrowed := true }
def SchedWideUptoSaid : Prop := schedWideUptoRow.holds Try.pinned (OpenSpec.upto schedWideSpec)

/-- 'organonlaw18.SchedFull', WHERE WHAT IT READS IS OF BULK AT MOST 1048576: true; the input reads as it did. -/
def schedFullUptoRow : OpenClaim := { program := "ythcchpbidbbiaaa", sum := "b3d52ae401aeedf9636cbc35c74993bb7d29d1d5d2def872ec609f91fcb83161", func := "organon/organonlaw18.SchedFull", spec := "schedFull", unfollowed := true, recurses := true, apart := false, narrowed := true }
def SchedFullUptoSaid : Prop := schedFullUptoRow.holds Try.pinned (OpenSpec.upto schedFullSpec)

/-- 'organonlaw18.SchedEnds', WHERE WHAT IT READS IS OF BULK AT MOST 1048576: true; the input reads as it did. -/
def schedEndsUptoRow : OpenClaim := { program := "ythcchpbidbbiaaa", sum := "b3d52ae401aeedf9636cbc35c74993bb7d29d1d5d2def872ec609f91fcb83161", func := "organon/organonlaw18.SchedEnds", spec := "schedEnds", unfollowed := true, recurses := true, apart := false, narrowed := true }
def SchedEndsUptoSaid : Prop := schedEndsUptoRow.holds Try.pinned (OpenSpec.upto schedEndsSpec)

/-- 'organonlaw18.SchedPlays', WHERE WHAT IT READS IS OF BULK AT MOST 1048576: true; the input reads as it did. -/
def schedPlaysUptoRow : OpenClaim := { program := "ythcchpbidbbiaaa", sum := "b3d52ae401aeedf9636cbc35c74993bb7d29d1d5d2def872ec609f91fcb83161", func := "organon/organonlaw18.SchedPlays", spec := "schedPlays", unfollowed := true, recurses := true, apart := false, narrowed := true }
def SchedPlaysUptoSaid : Prop := schedPlaysUptoRow.holds Try.pinned (OpenSpec.upto schedPlaysSpec)

/-- 'organonlaw18.SchedSide', WHERE WHAT IT READS IS OF BULK AT MOST 1048576: true; the input reads as it did. -/
def schedSideUptoRow : OpenClaim := { program := "ythcchpbidbbiaaa", sum := "b3d52ae401aeedf9636cbc35c74993bb7d29d1d5d2def872ec609f91fcb83161", func := "organon/organonlaw18.SchedSide", spec := "schedSide", unfollowed := true, recurses := true, apart := false, narrowed := true }
def SchedSideUptoSaid : Prop := schedSideUptoRow.holds Try.pinned (OpenSpec.upto schedSideSpec)

/-- 'organonlaw18.SchedCopies', WHERE WHAT IT READS IS OF BULK AT MOST 1048576: true; the input reads as it did. -/
def schedCopiesUptoRow : OpenClaim := { program := "ythcchpbidbbiaaa", sum := "b3d52ae401aeedf9636cbc35c74993bb7d29d1d5d2def872ec609f91fcb83161", func := "organon/organonlaw18.SchedCopies", spec := "schedCopies", unfollowed := true, recurses := true, apart := false, narrowed := true }
def SchedCopiesUptoSaid : Prop := schedCopiesUptoRow.holds Try.pinned (OpenSpec.upto schedCopiesSpec)

end Rows
end Go.Proofs.Ythcchpbidbbiaaa
