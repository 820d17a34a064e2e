/-
  No cell of these rows narrows 'for every input' (looked for: loops, veiled, ifaces, maps, wideKeys, modest, calm, conditions, laid).
  DERIVED. THE GIVEN ROWS OF THIS SEAT. 13 by the template 'for every input the law returns true; each argument reads behind the call as it read before'; 0 by the template 'total and deterministic' (their statements: YtcnhcfmmlonjjaaTotals.lean).
  GIVEN WITH THE SEED: the statements are not yours to turn. If you find one false, say at which input.
  Laid BY PROGRAM, IN A SANDBOX (cutbox-rows.mjs): the forced cells as the released guide's own fill.sh prints them over the translation c12afe9e07994910… (all of the seat's roots in one cut). By AI agents, Wed Nov 11 2026. No macro, syntax, notation, axiom, sorry.
-/
import Derived.Test.YtcnhcfmmlonjjaaChecked
import GoSem.Claim
import GoSem.ClaimJoined
import GoSem.ClaimMapViews
import Derived.JoinedTies
import Derived.KernelRfl
namespace Go.Proofs.Ytcnhcfmmlonjjaa
/- THE CELL 'sum', in the pinned program and in every row, IS THE sha256 OF THE DUMP (.gsa) THAT YtcnhcfmmlonjjaaProg.lean LOADS. Nothing in Lean hashes anything: it is a label: what it is worth is what the hold of that sum in a sandbox is worth. -/
noncomputable def Try.pinned : Pinned := { name := "ytcnhcfmmlonjjaa", sum := "c12afe9e0799491013056a577910b9c4f477bc96a285239b995c2e3afc7615bf", checked := Try.checked }
namespace Rows
def none {H : Type} : Left H := { results := [], args := [] }

/-- 'organonlaw01.WordFolds': WHATEVER THE INPUT: true; the input reads as it did. -/
def wordFoldsSpec : ChangeSpec := { name := "wordFolds", fn := fun _ => fun
  | [d1, d2] => { results := [.lit (.bool true)], args := [d1, d2] }
  | _ => none }
def wordFoldsRow : OpenClaim := { program := "ytcnhcfmmlonjjaa", sum := "c12afe9e0799491013056a577910b9c4f477bc96a285239b995c2e3afc7615bf", func := "organon/organonlaw01.WordFolds", spec := "wordFolds", apart := false }
def WordFoldsSaid : Prop := wordFoldsRow.holds Try.pinned (OpenSpec.ofChange wordFoldsSpec)

/-- ITS FALSE NEIGHBOUR: 'it returns false'. Refute it at one input. -/
def wordFoldsWrong : ChangeSpec := { name := "wordFolds", fn := fun _ => fun
  | [d1, d2] => { results := [.lit (.bool false)], args := [d1, d2] }
  | _ => none }
def WordFoldsWrongFalsely : Prop := wordFoldsRow.holds Try.pinned (OpenSpec.ofChange wordFoldsWrong)

/-- 'organonlaw01.WordCuts': WHATEVER THE INPUT: true; the input reads as it did. -/
def wordCutsSpec : ChangeSpec := { name := "wordCuts", fn := fun _ => fun
  | [d1, d2] => { results := [.lit (.bool true)], args := [d1, d2] }
  | _ => none }
def wordCutsRow : OpenClaim := { program := "ytcnhcfmmlonjjaa", sum := "c12afe9e0799491013056a577910b9c4f477bc96a285239b995c2e3afc7615bf", func := "organon/organonlaw01.WordCuts", spec := "wordCuts", apart := false }
def WordCutsSaid : Prop := wordCutsRow.holds Try.pinned (OpenSpec.ofChange wordCutsSpec)

/-- ITS FALSE NEIGHBOUR: 'it returns false'. Refute it at one input. -/
def wordCutsWrong : ChangeSpec := { name := "wordCuts", fn := fun _ => fun
  | [d1, d2] => { results := [.lit (.bool false)], args := [d1, d2] }
  | _ => none }
def WordCutsWrongFalsely : Prop := wordCutsRow.holds Try.pinned (OpenSpec.ofChange wordCutsWrong)

/-- 'organonlaw01.WordNarrows': WHATEVER THE INPUT: true; the input reads as it did. -/
def wordNarrowsSpec : ChangeSpec := { name := "wordNarrows", fn := fun _ => fun
  | [d1, d2] => { results := [.lit (.bool true)], args := [d1, d2] }
  | _ => none }
def wordNarrowsRow : OpenClaim := { program := "ytcnhcfmmlonjjaa", sum := "c12afe9e0799491013056a577910b9c4f477bc96a285239b995c2e3afc7615bf", func := "organon/organonlaw01.WordNarrows", spec := "wordNarrows", apart := false }
def WordNarrowsSaid : Prop := wordNarrowsRow.holds Try.pinned (OpenSpec.ofChange wordNarrowsSpec)

/-- ITS FALSE NEIGHBOUR: 'it returns false'. Refute it at one input. -/
def wordNarrowsWrong : ChangeSpec := { name := "wordNarrows", fn := fun _ => fun
  | [d1, d2] => { results := [.lit (.bool false)], args := [d1, d2] }
  | _ => none }
def WordNarrowsWrongFalsely : Prop := wordNarrowsRow.holds Try.pinned (OpenSpec.ofChange wordNarrowsWrong)

/-- 'organonlaw01.WordKeeps': WHATEVER THE INPUT: true; the input reads as it did. -/
def wordKeepsSpec : ChangeSpec := { name := "wordKeeps", fn := fun _ => fun
  | [d1, d2, d3] => { results := [.lit (.bool true)], args := [d1, d2, d3] }
  | _ => none }
def wordKeepsRow : OpenClaim := { program := "ytcnhcfmmlonjjaa", sum := "c12afe9e0799491013056a577910b9c4f477bc96a285239b995c2e3afc7615bf", func := "organon/organonlaw01.WordKeeps", spec := "wordKeeps", apart := false }
def WordKeepsSaid : Prop := wordKeepsRow.holds Try.pinned (OpenSpec.ofChange wordKeepsSpec)

/-- ITS FALSE NEIGHBOUR: 'it returns false'. Refute it at one input. -/
def wordKeepsWrong : ChangeSpec := { name := "wordKeeps", fn := fun _ => fun
  | [d1, d2, d3] => { results := [.lit (.bool false)], args := [d1, d2, d3] }
  | _ => none }
def WordKeepsWrongFalsely : Prop := wordKeepsRow.holds Try.pinned (OpenSpec.ofChange wordKeepsWrong)

/-- 'organonlaw01.WordHeads': WHATEVER THE INPUT: true; the input reads as it did. -/
def wordHeadsSpec : ChangeSpec := { name := "wordHeads", fn := fun _ => fun
  | [d1, d2, d3] => { results := [.lit (.bool true)], args := [d1, d2, d3] }
  | _ => none }
def wordHeadsRow : OpenClaim := { program := "ytcnhcfmmlonjjaa", sum := "c12afe9e0799491013056a577910b9c4f477bc96a285239b995c2e3afc7615bf", func := "organon/organonlaw01.WordHeads", spec := "wordHeads", apart := false }
def WordHeadsSaid : Prop := wordHeadsRow.holds Try.pinned (OpenSpec.ofChange wordHeadsSpec)

/-- ITS FALSE NEIGHBOUR: 'it returns false'. Refute it at one input. -/
def wordHeadsWrong : ChangeSpec := { name := "wordHeads", fn := fun _ => fun
  | [d1, d2, d3] => { results := [.lit (.bool false)], args := [d1, d2, d3] }
  | _ => none }
def WordHeadsWrongFalsely : Prop := wordHeadsRow.holds Try.pinned (OpenSpec.ofChange wordHeadsWrong)

/-- 'organonlaw01.WordUnpacks': WHATEVER THE INPUT: true; the input reads as it did. -/
def wordUnpacksSpec : ChangeSpec := { name := "wordUnpacks", fn := fun _ => fun
  | [d] => { results := [.lit (.bool true)], args := [d] }
  | _ => none }
def wordUnpacksRow : OpenClaim := { program := "ytcnhcfmmlonjjaa", sum := "c12afe9e0799491013056a577910b9c4f477bc96a285239b995c2e3afc7615bf", func := "organon/organonlaw01.WordUnpacks", spec := "wordUnpacks", apart := false }
def WordUnpacksSaid : Prop := wordUnpacksRow.holds Try.pinned (OpenSpec.ofChange wordUnpacksSpec)

/-- ITS FALSE NEIGHBOUR: 'it returns false'. Refute it at one input. -/
def wordUnpacksWrong : ChangeSpec := { name := "wordUnpacks", fn := fun _ => fun
  | [d] => { results := [.lit (.bool false)], args := [d] }
  | _ => none }
def WordUnpacksWrongFalsely : Prop := wordUnpacksRow.holds Try.pinned (OpenSpec.ofChange wordUnpacksWrong)

/-- 'organonlaw01.WordMixes': WHATEVER THE INPUT: true; the input reads as it did. -/
def wordMixesSpec : ChangeSpec := { name := "wordMixes", fn := fun _ => fun
  | [d1, d2, d3] => { results := [.lit (.bool true)], args := [d1, d2, d3] }
  | _ => none }
def wordMixesRow : OpenClaim := { program := "ytcnhcfmmlonjjaa", sum := "c12afe9e0799491013056a577910b9c4f477bc96a285239b995c2e3afc7615bf", func := "organon/organonlaw01.WordMixes", spec := "wordMixes", apart := false }
def WordMixesSaid : Prop := wordMixesRow.holds Try.pinned (OpenSpec.ofChange wordMixesSpec)

/-- ITS FALSE NEIGHBOUR: 'it returns false'. Refute it at one input. -/
def wordMixesWrong : ChangeSpec := { name := "wordMixes", fn := fun _ => fun
  | [d1, d2, d3] => { results := [.lit (.bool false)], args := [d1, d2, d3] }
  | _ => none }
def WordMixesWrongFalsely : Prop := wordMixesRow.holds Try.pinned (OpenSpec.ofChange wordMixesWrong)

/-- 'organonlaw01.WordGrows': WHATEVER THE INPUT: true; the input reads as it did. -/
def wordGrowsSpec : ChangeSpec := { name := "wordGrows", fn := fun _ => fun
  | [d] => { results := [.lit (.bool true)], args := [d] }
  | _ => none }
def wordGrowsRow : OpenClaim := { program := "ytcnhcfmmlonjjaa", sum := "c12afe9e0799491013056a577910b9c4f477bc96a285239b995c2e3afc7615bf", func := "organon/organonlaw01.WordGrows", spec := "wordGrows", apart := false }
def WordGrowsSaid : Prop := wordGrowsRow.holds Try.pinned (OpenSpec.ofChange wordGrowsSpec)

/-- ITS FALSE NEIGHBOUR: 'it returns false'. Refute it at one input. -/
def wordGrowsWrong : ChangeSpec := { name := "wordGrows", fn := fun _ => fun
  | [d] => { results := [.lit (.bool false)], args := [d] }
  | _ => none }
def WordGrowsWrongFalsely : Prop := wordGrowsRow.holds Try.pinned (OpenSpec.ofChange wordGrowsWrong)

/-- 'organonlaw01.WordOwn': WHATEVER THE INPUT: true; the input reads as it did. -/
def wordOwnSpec : ChangeSpec := { name := "wordOwn", fn := fun _ => fun
  | [d1, d2] => { results := [.lit (.bool true)], args := [d1, d2] }
  | _ => none }
def wordOwnRow : OpenClaim := { program := "ytcnhcfmmlonjjaa", sum := "c12afe9e0799491013056a577910b9c4f477bc96a285239b995c2e3afc7615bf", func := "organon/organonlaw01.WordOwn", spec := "wordOwn", apart := false }
def WordOwnSaid : Prop := wordOwnRow.holds Try.pinned (OpenSpec.ofChange wordOwnSpec)

/-- ITS FALSE NEIGHBOUR: 'it returns false'. Refute it at one input. -/
def wordOwnWrong : ChangeSpec := { name := "wordOwn", fn := fun _ => fun
  | [d1, d2] => { results := [.lit (.bool false)], args := [d1, d2] }
  | _ => none }
def WordOwnWrongFalsely : Prop := wordOwnRow.holds Try.pinned (OpenSpec.ofChange wordOwnWrong)

/-- 'organonlaw01.WordSevens': WHATEVER THE INPUT: true; the input reads as it did. -/
def wordSevensSpec : ChangeSpec := { name := "wordSevens", fn := fun _ => fun
  | [d1, d2] => { results := [.lit (.bool true)], args := [d1, d2] }
  | _ => none }
def wordSevensRow : OpenClaim := { program := "ytcnhcfmmlonjjaa", sum := "c12afe9e0799491013056a577910b9c4f477bc96a285239b995c2e3afc7615bf", func := "organon/organonlaw01.WordSevens", spec := "wordSevens", apart := false }
def WordSevensSaid : Prop := wordSevensRow.holds Try.pinned (OpenSpec.ofChange wordSevensSpec)

/-- ITS FALSE NEIGHBOUR: 'it returns false'. Refute it at one input. -/
def wordSevensWrong : ChangeSpec := { name := "wordSevens", fn := fun _ => fun
  | [d1, d2] => { results := [.lit (.bool false)], args := [d1, d2] }
  | _ => none }
def WordSevensWrongFalsely : Prop := wordSevensRow.holds Try.pinned (OpenSpec.ofChange wordSevensWrong)

/-- 'organonlaw01.WordBack': WHATEVER THE INPUT: true; the input reads as it did. -/
def wordBackSpec : ChangeSpec := { name := "wordBack", fn := fun _ => fun
  | [d1, d2] => { results := [.lit (.bool true)], args := [d1, d2] }
  | _ => none }
def wordBackRow : OpenClaim := { program := "ytcnhcfmmlonjjaa", sum := "c12afe9e0799491013056a577910b9c4f477bc96a285239b995c2e3afc7615bf", func := "organon/organonlaw01.WordBack", spec := "wordBack", apart := false }
def WordBackSaid : Prop := wordBackRow.holds Try.pinned (OpenSpec.ofChange wordBackSpec)

/-- ITS FALSE NEIGHBOUR: 'it returns false'. Refute it at one input. -/
def wordBackWrong : ChangeSpec := { name := "wordBack", fn := fun _ => fun
  | [d1, d2] => { results := [.lit (.bool false)], args := [d1, d2] }
  | _ => none }
def WordBackWrongFalsely : Prop := wordBackRow.holds Try.pinned (OpenSpec.ofChange wordBackWrong)

/-- 'organonlaw01.WordTurns': WHATEVER THE INPUT: true; the input reads as it did. -/
def wordTurnsSpec : ChangeSpec := { name := "wordTurns", fn := fun _ => fun
  | [d1, d2, d3] => { results := [.lit (.bool true)], args := [d1, d2, d3] }
  | _ => none }
def wordTurnsRow : OpenClaim := { program := "ytcnhcfmmlonjjaa", sum := "c12afe9e0799491013056a577910b9c4f477bc96a285239b995c2e3afc7615bf", func := "organon/organonlaw01.WordTurns", spec := "wordTurns", apart := false }
def WordTurnsSaid : Prop := wordTurnsRow.holds Try.pinned (OpenSpec.ofChange wordTurnsSpec)

/-- ITS FALSE NEIGHBOUR: 'it returns false'. Refute it at one input. -/
def wordTurnsWrong : ChangeSpec := { name := "wordTurns", fn := fun _ => fun
  | [d1, d2, d3] => { results := [.lit (.bool false)], args := [d1, d2, d3] }
  | _ => none }
def WordTurnsWrongFalsely : Prop := wordTurnsRow.holds Try.pinned (OpenSpec.ofChange wordTurnsWrong)

/-- 'organonlaw01.WordLists': WHATEVER THE INPUT: true; the input reads as it did. -/
def wordListsSpec : ChangeSpec := { name := "wordLists", fn := fun _ => fun
  | [d] => { results := [.lit (.bool true)], args := [d] }
  | _ => none }
def wordListsRow : OpenClaim := { program := "ytcnhcfmmlonjjaa", sum := "c12afe9e0799491013056a577910b9c4f477bc96a285239b995c2e3afc7615bf", func := "organon/organonlaw01.WordLists", spec := "wordLists", apart := false }
def WordListsSaid : Prop := wordListsRow.holds Try.pinned (OpenSpec.ofChange wordListsSpec)

/-- ITS FALSE NEIGHBOUR: 'it returns false'. Refute it at one input. -/
def wordListsWrong : ChangeSpec := { name := "wordLists", fn := fun _ => fun
  | [d] => { results := [.lit (.bool false)], args := [d] }
  | _ => none }
def WordListsWrongFalsely : Prop := wordListsRow.holds Try.pinned (OpenSpec.ofChange wordListsWrong)

/- THE SECOND FORM. 'bulk': how many values and letters a reading holds, each counted each time it is reached (what is shared counts as often as it is met; a slice's spare places count too). A statement '..UptoSaid' is the law's where the arguments, and the package variables that the reading takes, are together of bulk at most 1048576: NARROWER than '..Said'. Prove '..Said' where nothing that the law and all that it calls make is longer than what came in: it says more and counts as full. Else prove '..UptoSaid'. A law counts once. -/
mutual
def uptoBulk {H : Type} : DataW H → Nat
  | .lit (.string bytes) => bytes.length + 1
  | .lit _ => 1
  | .nil => 1
  | .ptr d => uptoBulk d + 1
  | .slice elems spare => uptoBulkAll elems + uptoBulkAll spare + 1
  | .agg parts => uptoBulkAll parts + 1
  | .iface _ d => uptoBulk d + 1
  | .map entries => uptoBulkEntries entries + 1
  | .held _ => 1
def uptoBulkAll {H : Type} : List (DataW H) → Nat
  | [] => 0
  | d :: r => uptoBulk d + uptoBulkAll r
def uptoBulkEntries {H : Type} : List (Lit × DataW H) → Nat
  | [] => 0
  | x :: r => uptoBulkEntry x + uptoBulkEntries r
def uptoBulkEntry {H : Type} : Lit × DataW H → Nat
  | (.string bytes, d) => bytes.length + uptoBulk d + 1
  | (_, d) => uptoBulk d + 1
 end
def uptoSmall : (H : Type) → List (DataW H) → Bool := fun _ ds => decide (uptoBulkAll ds ≤ 1048576)
def OpenSpec.upto (s : _root_.Go.ChangeSpec) : _root_.Go.OpenSpec := { _root_.Go.OpenSpec.ofChange s with cond := some uptoSmall }

/-- 'organonlaw01.WordFolds', WHERE WHAT IT READS IS OF BULK AT MOST 1048576: true; the input reads as it did. -/
def wordFoldsUptoRow : OpenClaim := { program := "ytcnhcfmmlonjjaa", sum := "c12afe9e0799491013056a577910b9c4f477bc96a285239b995c2e3afc7615bf", func := "organon/organonlaw01.WordFolds", spec := "wordFolds", apart := false, narrowed := true }
def WordFoldsUptoSaid : Prop := wordFoldsUptoRow.holds Try.pinned (OpenSpec.upto wordFoldsSpec)

/-- 'organonlaw01.WordCuts', WHERE WHAT IT READS IS OF BULK AT MOST 1048576: true; the input reads as it did. -/
def wordCutsUptoRow : OpenClaim := { program := "ytcnhcfmmlonjjaa", sum := "c12afe9e0799491013056a577910b9c4f477bc96a285239b995c2e3afc7615bf", func := "organon/organonlaw01.WordCuts", spec := "wordCuts", apart := false, narrowed := true }
def WordCutsUptoSaid : Prop := wordCutsUptoRow.holds Try.pinned (OpenSpec.upto wordCutsSpec)

/-- 'organonlaw01.WordNarrows', WHERE WHAT IT READS IS OF BULK AT MOST 1048576: true; the input reads as it did. -/
def wordNarrowsUptoRow : OpenClaim := { program := "ytcnhcfmmlonjjaa", sum := "c12afe9e0799491013056a577910b9c4f477bc96a285239b995c2e3afc7615bf", func := "organon/organonlaw01.WordNarrows", spec := "wordNarrows", apart := false, narrowed := true }
def WordNarrowsUptoSaid : Prop := wordNarrowsUptoRow.holds Try.pinned (OpenSpec.upto wordNarrowsSpec)

/-- 'organonlaw01.WordKeeps', WHERE WHAT IT READS IS OF BULK AT MOST 1048576: true; the input reads as it did. -/
def wordKeepsUptoRow : OpenClaim := { program := "ytcnhcfmmlonjjaa", sum := "c12afe9e0799491013056a577910b9c4f477bc96a285239b995c2e3afc7615bf", func := "organon/organonlaw01.WordKeeps", spec := "wordKeeps", apart := false, narrowed := true }
def WordKeepsUptoSaid : Prop := wordKeepsUptoRow.holds Try.pinned (OpenSpec.upto wordKeepsSpec)

/-- 'organonlaw01.WordHeads', WHERE WHAT IT READS IS OF BULK AT MOST 1048576: true; the input reads as it did. -/
def wordHeadsUptoRow : OpenClaim := { program := "ytcnhcfmmlonjjaa", sum := "c12afe9e0799491013056a577910b9c4f477bc96a285239b995c2e3afc7615bf", func := "organon/organonlaw01.WordHeads", spec := "wordHeads", apart := false, narrowed := true }
def WordHeadsUptoSaid : Prop := wordHeadsUptoRow.holds Try.pinned (OpenSpec.upto wordHeadsSpec)

/-- 'organonlaw01.WordUnpacks', WHERE WHAT IT READS IS OF BULK AT MOST 1048576: true; the input reads as it did. -/
def wordUnpacksUptoRow : OpenClaim := { program := "ytcnhcfmmlonjjaa", sum := "c12afe9e0799491013056a577910b9c4f477bc96a285239b995c2e3afc7615bf", func := "organon/organonlaw01.WordUnpacks", spec := "wordUnpacks", apart := false, narrowed := true }
def WordUnpacksUptoSaid : Prop := wordUnpacksUptoRow.holds Try.pinned (OpenSpec.upto wordUnpacksSpec)

/-- 'organonlaw01.WordMixes', WHERE WHAT IT READS IS OF BULK AT MOST 1048576: true; the input reads as it did. -/
def wordMixesUptoRow : OpenClaim := { program := "ytcnhcfmmlonjjaa", sum := "c12afe9e0799491013056a577910b9c4f477bc96a285239b995c2e3afc7615bf", func := "organon/organonlaw01.WordMixes", spec := "wordMixes", apart := false, narrowed := true }
def WordMixesUptoSaid : Prop := wordMixesUptoRow.holds Try.pinned (OpenSpec.upto wordMixesSpec)

/-- 'organonlaw01.WordGrows', WHERE WHAT IT READS IS OF BULK AT MOST 1048576: true; the input reads as it did. -/
def wordGrowsUptoRow : OpenClaim := { program := "ytcnhcfmmlonjjaa", sum := "c12afe9e0799491013056a577910b9c4f477bc96a285239b995c2e3afc7615bf", func := "organon/organonlaw01.WordGrows", spec := "wordGrows", apart := false, narrowed := true }
def WordGrowsUptoSaid : Prop := wordGrowsUptoRow.holds Try.pinned (OpenSpec.upto wordGrowsSpec)

/-- 'organonlaw01.WordOwn', WHERE WHAT IT READS IS OF BULK AT MOST 1048576: true; the input reads as it did. -/
def wordOwnUptoRow : OpenClaim := { program := "ytcnhcfmmlonjjaa", sum := "c12afe9e0799491013056a577910b9c4f477bc96a285239b995c2e3afc7615bf", func := "organon/organonlaw01.WordOwn", spec := "wordOwn", apart := false, narrowed := true }
def WordOwnUptoSaid : Prop := wordOwnUptoRow.holds Try.pinned (OpenSpec.upto wordOwnSpec)

/-- 'organonlaw01.WordSevens', WHERE WHAT IT READS IS OF BULK AT MOST 1048576: true; the input reads as it did. -/
def wordSevensUptoRow : OpenClaim := { program := "ytcnhcfmmlonjjaa", sum := "c12afe9e0799491013056a577910b9c4f477bc96a285239b995c2e3afc7615bf", func := "organon/organonlaw01.WordSevens", spec := "wordSevens", apart := false, narrowed := true }
def WordSevensUptoSaid : Prop := wordSevensUptoRow.holds Try.pinned (OpenSpec.upto wordSevensSpec)

/-- 'organonlaw01.WordBack', WHERE WHAT IT READS IS OF BULK AT MOST 1048576: true; the input reads as it did. -/
def wordBackUptoRow : OpenClaim := { program := "ytcnhcfmmlonjjaa", sum := "c12afe9e0799491013056a577910b9c4f477bc96a285239b995c2e3afc7615bf", func := "organon/organonlaw01.WordBack", spec := "wordBack", apart := false, narrowed := true }
def WordBackUptoSaid : Prop := wordBackUptoRow.holds Try.pinned (OpenSpec.upto wordBackSpec)

/-- 'organonlaw01.WordTurns', WHERE WHAT IT READS IS OF BULK AT MOST 1048576: true; the input reads as it did. -/
def wordTurnsUptoRow : OpenClaim := { program := "ytcnhcfmmlonjjaa", sum := "c12afe9e0799491013056a577910b9c4f477bc96a285239b995c2e3afc7615bf", func := "organon/organonlaw01.WordTurns", spec := "wordTurns", apart := false, narrowed := true }
def WordTurnsUptoSaid : Prop := wordTurnsUptoRow.holds Try.pinned (OpenSpec.upto wordTurnsSpec)

/-- 'organonlaw01.WordLists', WHERE WHAT IT READS IS OF BULK AT MOST 1048576: true; the input reads as it did. -/
def wordListsUptoRow : OpenClaim := { program := "ytcnhcfmmlonjjaa", sum := "c12afe9e0799491013056a577910b9c4f477bc96a285239b995c2e3afc7615bf", func := "organon/organonlaw01.WordLists", spec := "wordLists", apart := false, narrowed := true }
def WordListsUptoSaid : Prop := wordListsUptoRow.holds Try.pinned (OpenSpec.upto wordListsSpec)

end Rows
end Go.Proofs.Ytcnhcfmmlonjjaa
