/-
  DERIVED. GIVEN WITH THE SEED: THE CARDS: each row of YtcnhcfmmlonjjaaDoorRows.lean that lists a variable, with what it lists TIED to the program's text (the seventh form; the later family's looks); each row that meets fmt, with fmt's text TOLD by the authors' own Lean function (tested against real Go, not proved from fmt's source: count such statements apart). THE CARD IS WHAT COUNTS. Prove the row's statement (the work); the ties are given (YtcnhcfmmlonjjaaDoorTie.lean); close each card by the builder's one call (the guide's Derived/Test/ToyasCard.lean, 'card_holds'). Laid BY PROGRAM, IN A SANDBOX (cutbox-door.mjs). By AI agents, Wed Nov 11 2026. No macro, syntax, notation, axiom, sorry.
-/
import Derived.Test.YtcnhcfmmlonjjaaDoorRows
import GoSem.ClaimSeven
namespace Go.Proofs.YtcnhcfmmlonjjaaDoor
namespace Rows

/-- THE TIED CARD OF 'organonlaw01.WordMembers'. -/
def wordMembersCard : Claim7 := { stood := { row := wordMembersRow, standIns := [], harness := (true, "b944925379a5cd770143e22b8a02a41fc208dce0ae047f24a71d70a358d09c45"), looks := false }, kinds := [], alts := [], laidByText := true, laidKinds := [.data], laidTests := true, laidLooks := .later }
def WordMembersCardSaid : Prop := Claim7.holds Tryd.pinned (.plain (OpenSpec.ofChange wordMembersSpec)) wordMembersCard

/-- THE TIED CARD OF 'organonlaw01.WordSets'. -/
def wordSetsCard : Claim7 := { stood := { row := wordSetsRow, standIns := [], harness := (true, "b944925379a5cd770143e22b8a02a41fc208dce0ae047f24a71d70a358d09c45"), looks := false }, kinds := [], alts := [], laidByText := true, laidKinds := [.data], laidTests := true, laidLooks := .later }
def WordSetsCardSaid : Prop := Claim7.holds Tryd.pinned (.plain (OpenSpec.ofChange wordSetsSpec)) wordSetsCard

/-- THE SECOND FORM's CARD OF 'organonlaw01.WordMembers'. -/
def wordMembersUptoCard : Claim7 := { stood := { row := wordMembersUptoRow, standIns := [], harness := (true, "b944925379a5cd770143e22b8a02a41fc208dce0ae047f24a71d70a358d09c45"), looks := false }, kinds := [], alts := [], laidByText := true, laidKinds := [.data], laidTests := true, laidLooks := .later }
def WordMembersUptoCardSaid : Prop := Claim7.holds Tryd.pinned (.plain (OpenSpec.upto wordMembersSpec)) wordMembersUptoCard

/-- THE SECOND FORM's CARD OF 'organonlaw01.WordSets'. -/
def wordSetsUptoCard : Claim7 := { stood := { row := wordSetsUptoRow, standIns := [], harness := (true, "b944925379a5cd770143e22b8a02a41fc208dce0ae047f24a71d70a358d09c45"), looks := false }, kinds := [], alts := [], laidByText := true, laidKinds := [.data], laidTests := true, laidLooks := .later }
def WordSetsUptoCardSaid : Prop := Claim7.holds Tryd.pinned (.plain (OpenSpec.upto wordSetsSpec)) wordSetsUptoCard
end Rows
end Go.Proofs.YtcnhcfmmlonjjaaDoor
