/-
  No cell of these rows narrows 'for every input' (looked for: loops, veiled, ifaces, maps, wideKeys, modest, calm, conditions, laid).
  DERIVED. THE GIVEN ROWS OF THIS SEAT. 4 by the template 'for every input the law returns true; each argument reads behind the call as it read before'; 0 by the template 'total and deterministic' (their statements: YtipggffdknonmaaTotals.lean).
  GIVEN WITH THE SEED: the statements are not yours to turn. If you find one false, say at which input.
  Laid BY PROGRAM, IN A SANDBOX (cutbox-rows.mjs): the forced cells as the released guide's own fill.sh prints them over the translation 2792c5b846cd67e3… (all of the seat's roots in one cut). By AI agents, Wed Nov 11 2026. No macro, syntax, notation, axiom, sorry.
-/
import Derived.Test.YtipggffdknonmaaChecked
import GoSem.Claim
import GoSem.ClaimJoined
import GoSem.ClaimMapViews
import Derived.JoinedTies
import Derived.KernelRfl
namespace Go.Proofs.Ytipggffdknonmaa
/- THE CELL 'sum', in the pinned program and in every row, IS THE sha256 OF THE DUMP (.gsa) THAT YtipggffdknonmaaProg.lean LOADS. Nothing in Lean hashes anything: it is a label: what it is worth is what the hold of that sum in a sandbox is worth. -/
noncomputable def Try.pinned : Pinned := { name := "ytipggffdknonmaa", sum := "2792c5b846cd67e3399f938dd4ba49b18ed8f84391beef5a797e725f291beeab", checked := Try.checked }
namespace Rows
def none {H : Type} : Left H := { results := [], args := [] }

/-- 'organonlaw03.ParseTokens': WHATEVER THE INPUT: true; the input reads as it did. -/
def parseTokensSpec : ChangeSpec := { name := "parseTokens", fn := fun _ => fun
  | [d] => { results := [.lit (.bool true)], args := [d] }
  | _ => none }
def parseTokensRow : OpenClaim := { program := "ytipggffdknonmaa", sum := "2792c5b846cd67e3399f938dd4ba49b18ed8f84391beef5a797e725f291beeab", func := "organon/organonlaw03.ParseTokens", spec := "parseTokens", inPlace := ["internal/bytealg.IndexByteString", "internal/bytealg.IndexString"], named := ["internal/bytealg.MaxLen"], apart := false }
def ParseTokensSaid : Prop := parseTokensRow.holds Try.pinned (OpenSpec.ofChange parseTokensSpec)

/-- ITS FALSE NEIGHBOUR: 'it returns false'. Refute it at one input. -/
def parseTokensWrong : ChangeSpec := { name := "parseTokens", fn := fun _ => fun
  | [d] => { results := [.lit (.bool false)], args := [d] }
  | _ => none }
def ParseTokensWrongFalsely : Prop := parseTokensRow.holds Try.pinned (OpenSpec.ofChange parseTokensWrong)

/-- 'organonlaw03.ParseTerms': WHATEVER THE INPUT: true; the input reads as it did. -/
def parseTermsSpec : ChangeSpec := { name := "parseTerms", fn := fun _ => fun
  | [d] => { results := [.lit (.bool true)], args := [d] }
  | _ => none }
def parseTermsRow : OpenClaim := { program := "ytipggffdknonmaa", sum := "2792c5b846cd67e3399f938dd4ba49b18ed8f84391beef5a797e725f291beeab", func := "organon/organonlaw03.ParseTerms", spec := "parseTerms", inPlace := ["internal/bytealg.IndexByteString", "internal/bytealg.IndexString"], unfollowed := true, recurses := true, named := ["internal/bytealg.MaxLen"], apart := false }
def ParseTermsSaid : Prop := parseTermsRow.holds Try.pinned (OpenSpec.ofChange parseTermsSpec)

/-- ITS FALSE NEIGHBOUR: 'it returns false'. Refute it at one input. -/
def parseTermsWrong : ChangeSpec := { name := "parseTerms", fn := fun _ => fun
  | [d] => { results := [.lit (.bool false)], args := [d] }
  | _ => none }
def ParseTermsWrongFalsely : Prop := parseTermsRow.holds Try.pinned (OpenSpec.ofChange parseTermsWrong)

/-- 'organonlaw03.ParseFormulas': WHATEVER THE INPUT: true; the input reads as it did. -/
def parseFormulasSpec : ChangeSpec := { name := "parseFormulas", fn := fun _ => fun
  | [d] => { results := [.lit (.bool true)], args := [d] }
  | _ => none }
def parseFormulasRow : OpenClaim := { program := "ytipggffdknonmaa", sum := "2792c5b846cd67e3399f938dd4ba49b18ed8f84391beef5a797e725f291beeab", func := "organon/organonlaw03.ParseFormulas", spec := "parseFormulas", inPlace := ["internal/bytealg.IndexByteString", "internal/bytealg.IndexString"], unfollowed := true, recurses := true, named := ["internal/bytealg.MaxLen"], apart := false }
def ParseFormulasSaid : Prop := parseFormulasRow.holds Try.pinned (OpenSpec.ofChange parseFormulasSpec)

/-- ITS FALSE NEIGHBOUR: 'it returns false'. Refute it at one input. -/
def parseFormulasWrong : ChangeSpec := { name := "parseFormulas", fn := fun _ => fun
  | [d] => { results := [.lit (.bool false)], args := [d] }
  | _ => none }
def ParseFormulasWrongFalsely : Prop := parseFormulasRow.holds Try.pinned (OpenSpec.ofChange parseFormulasWrong)

/-- 'organonlaw03.ParsePlaces': WHATEVER THE INPUT: true; the input reads as it did. -/
def parsePlacesSpec : ChangeSpec := { name := "parsePlaces", fn := fun _ => fun
  | [d] => { results := [.lit (.bool true)], args := [d] }
  | _ => none }
def parsePlacesRow : OpenClaim := { program := "ytipggffdknonmaa", sum := "2792c5b846cd67e3399f938dd4ba49b18ed8f84391beef5a797e725f291beeab", func := "organon/organonlaw03.ParsePlaces", spec := "parsePlaces", inPlace := ["internal/bytealg.IndexByteString", "internal/bytealg.IndexString"], unfollowed := true, recurses := true, named := ["internal/bytealg.MaxLen"], apart := false }
def ParsePlacesSaid : Prop := parsePlacesRow.holds Try.pinned (OpenSpec.ofChange parsePlacesSpec)

/-- ITS FALSE NEIGHBOUR: 'it returns false'. Refute it at one input. -/
def parsePlacesWrong : ChangeSpec := { name := "parsePlaces", fn := fun _ => fun
  | [d] => { results := [.lit (.bool false)], args := [d] }
  | _ => none }
def ParsePlacesWrongFalsely : Prop := parsePlacesRow.holds Try.pinned (OpenSpec.ofChange parsePlacesWrong)

/- THE SECOND FORM. 'bulk': how many values and letters a reading holds, each counted each time it is reached (what is shared counts as often as it is met; a slice's spare places count too). A statement '..UptoSaid' is the law's where the arguments, and the package variables that the reading takes, are together of bulk at most 1048576: NARROWER than '..Said'. Prove '..Said' where nothing that the law and all that it calls make is longer than what came in: it says more and counts as full. Else prove '..UptoSaid'. A law counts once. -/
mutual
def uptoBulk {H : Type} : DataW H → Nat
  | .lit (.string bytes) => bytes.length + 1
  | .lit _ => 1
  | .nil => 1
  | .ptr d => uptoBulk d + 1
  | .slice elems spare => uptoBulkAll elems + uptoBulkAll spare + 1
  | .agg parts => uptoBulkAll parts + 1
  | .iface _ d => uptoBulk d + 1
  | .map entries => uptoBulkEntries entries + 1
  | .held _ => 1
def uptoBulkAll {H : Type} : List (DataW H) → Nat
  | [] => 0
  | d :: r => uptoBulk d + uptoBulkAll r
def uptoBulkEntries {H : Type} : List (Lit × DataW H) → Nat
  | [] => 0
  | x :: r => uptoBulkEntry x + uptoBulkEntries r
def uptoBulkEntry {H : Type} : Lit × DataW H → Nat
  | (.string bytes, d) => bytes.length + uptoBulk d + 1
  | (_, d) => uptoBulk d + 1
 end
def uptoSmall : (H : Type) → List (DataW H) → Bool := fun _ ds => decide (uptoBulkAll ds ≤ 1048576)
def OpenSpec.upto (s : _root_.Go.ChangeSpec) : _root_.Go.OpenSpec := { _root_.Go.OpenSpec.ofChange s with cond := some uptoSmall }

/-- 'organonlaw03.ParseTokens', WHERE WHAT IT READS IS OF BULK AT MOST 1048576: true; the input reads as it did. -/
def parseTokensUptoRow : OpenClaim := { program := "ytipggffdknonmaa", sum := "2792c5b846cd67e3399f938dd4ba49b18ed8f84391beef5a797e725f291beeab", func := "organon/organonlaw03.ParseTokens", spec := "parseTokens", inPlace := ["internal/bytealg.IndexByteString", "internal/bytealg.IndexString"], named := ["internal/bytealg.MaxLen"], apart := false, narrowed := true }
def ParseTokensUptoSaid : Prop := parseTokensUptoRow.holds Try.pinned (OpenSpec.upto parseTokensSpec)

/-- 'organonlaw03.ParseTerms', WHERE WHAT IT READS IS OF BULK AT MOST 1048576: true; the input reads as it did. -/
def parseTermsUptoRow : OpenClaim := { program := "ytipggffdknonmaa", sum := "2792c5b846cd67e3399f938dd4ba49b18ed8f84391beef5a797e725f291beeab", func := "organon/organonlaw03.ParseTerms", spec := "parseTerms", inPlace := ["internal/bytealg.IndexByteString", "internal/bytealg.IndexString"], unfollowed := true, recurses := true, named := ["internal/bytealg.MaxLen"], apart := false, narrowed := true }
def ParseTermsUptoSaid : Prop := parseTermsUptoRow.holds Try.pinned (OpenSpec.upto parseTermsSpec)

/-- 'organonlaw03.ParseFormulas', WHERE WHAT IT READS IS OF BULK AT MOST 1048576: true; the input reads as it did. -/
def parseFormulasUptoRow : OpenClaim := { program := "ytipggffdknonmaa", sum := "2792c5b846cd67e3399f938dd4ba49b18ed8f84391beef5a797e725f291beeab", func := "organon/organonlaw03.ParseFormulas", spec := "parseFormulas", inPlace := ["internal/bytealg.IndexByteString", "internal/bytealg.IndexString"], unfollowed := true, recurses := true, named := ["internal/bytealg.MaxLen"], apart := false, narrowed := true }
def ParseFormulasUptoSaid : Prop := parseFormulasUptoRow.holds Try.pinned (OpenSpec.upto parseFormulasSpec)

/-- 'organonlaw03.ParsePlaces', WHERE WHAT IT READS IS OF BULK AT MOST 1048576: true; the input reads as it did. -/
def parsePlacesUptoRow : OpenClaim := { program := "ytipggffdknonmaa", sum := "2792c5b846cd67e3399f938dd4ba49b18ed8f84391beef5a797e725f291beeab", func := "organon/organonlaw03.ParsePlaces", spec := "parsePlaces", inPlace := ["internal/bytealg.IndexByteString", "internal/bytealg.IndexString"], unfollowed := true, recurses := true, named := ["internal/bytealg.MaxLen"], apart := false, narrowed := true }
def ParsePlacesUptoSaid : Prop := parsePlacesUptoRow.holds Try.pinned (OpenSpec.upto parsePlacesSpec)

end Rows
end Go.Proofs.Ytipggffdknonmaa
