/-
  NARROWER THAN 'FOR EVERY INPUT', by the rows' own cells (each row's printed sentence says how): StampTells: loops · StampSame: loops · StampUnlike: loops.
  DERIVED. THE GIVEN ROWS OF THIS SEAT. 6 by the template 'for every input the law returns true; each argument reads behind the call as it read before'; 0 by the template 'total and deterministic' (their statements: YtgfokmgbphhpjaaTotals.lean).
  GIVEN WITH THE SEED: the statements are not yours to turn. If you find one false, say at which input.
  Laid BY PROGRAM, IN A SANDBOX (cutbox-rows.mjs): the forced cells as the released guide's own fill.sh prints them over the translation a716d7dbf7383088… (all of the seat's roots in one cut). By AI agents, Wed Nov 11 2026. No macro, syntax, notation, axiom, sorry.
-/
import Derived.Test.YtgfokmgbphhpjaaChecked
import GoSem.Claim
import GoSem.ClaimJoined
import GoSem.ClaimMapViews
import Derived.JoinedTies
import Derived.KernelRfl
namespace Go.Proofs.Ytgfokmgbphhpjaa
/- THE CELL 'sum', in the pinned program and in every row, IS THE sha256 OF THE DUMP (.gsa) THAT YtgfokmgbphhpjaaProg.lean LOADS. Nothing in Lean hashes anything: it is a label: what it is worth is what the hold of that sum in a sandbox is worth. -/
noncomputable def Try.pinned : Pinned := { name := "ytgfokmgbphhpjaa", sum := "a716d7dbf7383088fbbfa2fa3890604a4627606fac6409c3ca903a28105f9d98", checked := Try.checked }
namespace Rows
def none {H : Type} : Left H := { results := [], args := [] }

/-- 'organonlaw11.StampTells': WHATEVER THE INPUT: true; the input reads as it did. -/
def stampTellsSpec : ChangeSpec := { name := "stampTells", fn := fun _ => fun
  | [d1, d2] => { results := [.lit (.bool true)], args := [d1, d2] }
  | _ => none }
def stampTellsRow : OpenClaim := { program := "ytgfokmgbphhpjaa", sum := "a716d7dbf7383088fbbfa2fa3890604a4627606fac6409c3ca903a28105f9d98", func := "organon/organonlaw11.StampTells", spec := "stampTells", unfollowed := true, recurses := true, loops := true, apart := false }
def StampTellsSaid : Prop := stampTellsRow.holds Try.pinned (OpenSpec.ofChange stampTellsSpec)

/-- ITS FALSE NEIGHBOUR: 'it returns false'. Refute it at one input. -/
def stampTellsWrong : ChangeSpec := { name := "stampTells", fn := fun _ => fun
  | [d1, d2] => { results := [.lit (.bool false)], args := [d1, d2] }
  | _ => none }
def StampTellsWrongFalsely : Prop := stampTellsRow.holds Try.pinned (OpenSpec.ofChange stampTellsWrong)

/-- 'organonlaw11.StampBits': WHATEVER THE INPUT: true; the input reads as it did. -/
def stampBitsSpec : ChangeSpec := { name := "stampBits", fn := fun _ => fun
  | [d1, d2, d3] => { results := [.lit (.bool true)], args := [d1, d2, d3] }
  | _ => none }
def stampBitsRow : OpenClaim := { program := "ytgfokmgbphhpjaa", sum := "a716d7dbf7383088fbbfa2fa3890604a4627606fac6409c3ca903a28105f9d98", func := "organon/organonlaw11.StampBits", spec := "stampBits", unfollowed := true, recurses := true, apart := false }
def StampBitsSaid : Prop := stampBitsRow.holds Try.pinned (OpenSpec.ofChange stampBitsSpec)

/-- ITS FALSE NEIGHBOUR: 'it returns false'. Refute it at one input. -/
def stampBitsWrong : ChangeSpec := { name := "stampBits", fn := fun _ => fun
  | [d1, d2, d3] => { results := [.lit (.bool false)], args := [d1, d2, d3] }
  | _ => none }
def StampBitsWrongFalsely : Prop := stampBitsRow.holds Try.pinned (OpenSpec.ofChange stampBitsWrong)

/-- 'organonlaw11.StampKeeps': WHATEVER THE INPUT: true; the input reads as it did. -/
def stampKeepsSpec : ChangeSpec := { name := "stampKeeps", fn := fun _ => fun
  | [d1, d2] => { results := [.lit (.bool true)], args := [d1, d2] }
  | _ => none }
def stampKeepsRow : OpenClaim := { program := "ytgfokmgbphhpjaa", sum := "a716d7dbf7383088fbbfa2fa3890604a4627606fac6409c3ca903a28105f9d98", func := "organon/organonlaw11.StampKeeps", spec := "stampKeeps", unfollowed := true, recurses := true, apart := false }
def StampKeepsSaid : Prop := stampKeepsRow.holds Try.pinned (OpenSpec.ofChange stampKeepsSpec)

/-- ITS FALSE NEIGHBOUR: 'it returns false'. Refute it at one input. -/
def stampKeepsWrong : ChangeSpec := { name := "stampKeeps", fn := fun _ => fun
  | [d1, d2] => { results := [.lit (.bool false)], args := [d1, d2] }
  | _ => none }
def StampKeepsWrongFalsely : Prop := stampKeepsRow.holds Try.pinned (OpenSpec.ofChange stampKeepsWrong)

/-- 'organonlaw11.StampPlays': WHATEVER THE INPUT: true; the input reads as it did. -/
def stampPlaysSpec : ChangeSpec := { name := "stampPlays", fn := fun _ => fun
  | [d1, d2, d3] => { results := [.lit (.bool true)], args := [d1, d2, d3] }
  | _ => none }
def stampPlaysRow : OpenClaim := { program := "ytgfokmgbphhpjaa", sum := "a716d7dbf7383088fbbfa2fa3890604a4627606fac6409c3ca903a28105f9d98", func := "organon/organonlaw11.StampPlays", spec := "stampPlays", unfollowed := true, recurses := true, apart := false }
def StampPlaysSaid : Prop := stampPlaysRow.holds Try.pinned (OpenSpec.ofChange stampPlaysSpec)

/-- ITS FALSE NEIGHBOUR: 'it returns false'. Refute it at one input. -/
def stampPlaysWrong : ChangeSpec := { name := "stampPlays", fn := fun _ => fun
  | [d1, d2, d3] => { results := [.lit (.bool false)], args := [d1, d2, d3] }
  | _ => none }
def StampPlaysWrongFalsely : Prop := stampPlaysRow.holds Try.pinned (OpenSpec.ofChange stampPlaysWrong)

/-- 'organonlaw11.StampSame': WHATEVER THE INPUT: true; the input reads as it did. -/
def stampSameSpec : ChangeSpec := { name := "stampSame", fn := fun _ => fun
  | [d1, d2] => { results := [.lit (.bool true)], args := [d1, d2] }
  | _ => none }
def stampSameRow : OpenClaim := { program := "ytgfokmgbphhpjaa", sum := "a716d7dbf7383088fbbfa2fa3890604a4627606fac6409c3ca903a28105f9d98", func := "organon/organonlaw11.StampSame", spec := "stampSame", unfollowed := true, recurses := true, loops := true, apart := false }
def StampSameSaid : Prop := stampSameRow.holds Try.pinned (OpenSpec.ofChange stampSameSpec)

/-- ITS FALSE NEIGHBOUR: 'it returns false'. Refute it at one input. -/
def stampSameWrong : ChangeSpec := { name := "stampSame", fn := fun _ => fun
  | [d1, d2] => { results := [.lit (.bool false)], args := [d1, d2] }
  | _ => none }
def StampSameWrongFalsely : Prop := stampSameRow.holds Try.pinned (OpenSpec.ofChange stampSameWrong)

/-- 'organonlaw11.StampUnlike': WHATEVER THE INPUT: true; the input reads as it did. -/
def stampUnlikeSpec : ChangeSpec := { name := "stampUnlike", fn := fun _ => fun
  | [d] => { results := [.lit (.bool true)], args := [d] }
  | _ => none }
def stampUnlikeRow : OpenClaim := { program := "ytgfokmgbphhpjaa", sum := "a716d7dbf7383088fbbfa2fa3890604a4627606fac6409c3ca903a28105f9d98", func := "organon/organonlaw11.StampUnlike", spec := "stampUnlike", unfollowed := true, recurses := true, loops := true, apart := false }
def StampUnlikeSaid : Prop := stampUnlikeRow.holds Try.pinned (OpenSpec.ofChange stampUnlikeSpec)

/-- ITS FALSE NEIGHBOUR: 'it returns false'. Refute it at one input. -/
def stampUnlikeWrong : ChangeSpec := { name := "stampUnlike", fn := fun _ => fun
  | [d] => { results := [.lit (.bool false)], args := [d] }
  | _ => none }
def StampUnlikeWrongFalsely : Prop := stampUnlikeRow.holds Try.pinned (OpenSpec.ofChange stampUnlikeWrong)

/- THE SECOND FORM. 'bulk': how many values and letters a reading holds, each counted each time it is reached (what is shared counts as often as it is met; a slice's spare places count too). A statement '..UptoSaid' is the law's where the arguments, and the package variables that the reading takes, are together of bulk at most 1048576: NARROWER than '..Said'. Prove '..Said' where nothing that the law and all that it calls make is longer than what came in: it says more and counts as full. Else prove '..UptoSaid'. A law counts once. -/
mutual
def uptoBulk {H : Type} : DataW H → Nat
  | .lit (.string bytes) => bytes.length + 1
  | .lit _ => 1
  | .nil => 1
  | .ptr d => uptoBulk d + 1
  | .slice elems spare => uptoBulkAll elems + uptoBulkAll spare + 1
  | .agg parts => uptoBulkAll parts + 1
  | .iface _ d => uptoBulk d + 1
  | .map entries => uptoBulkEntries entries + 1
  | .held _ => 1
def uptoBulkAll {H : Type} : List (DataW H) → Nat
  | [] => 0
  | d :: r => uptoBulk d + uptoBulkAll r
def uptoBulkEntries {H : Type} : List (Lit × DataW H) → Nat
  | [] => 0
  | x :: r => uptoBulkEntry x + uptoBulkEntries r
def uptoBulkEntry {H : Type} : Lit × DataW H → Nat
  | (.string bytes, d) => bytes.length + uptoBulk d + 1
  | (_, d) => uptoBulk d + 1
 end
def uptoSmall : (H : Type) → List (DataW H) → Bool := fun _ ds => decide (uptoBulkAll ds ≤ 1048576)
def OpenSpec.upto (s : _root_.Go.ChangeSpec) : _root_.Go.OpenSpec := { _root_.Go.OpenSpec.ofChange s with cond := some uptoSmall }

/-- 'organonlaw11.StampTells', WHERE WHAT IT READS IS OF BULK AT MOST 1048576: true; the input reads as it did. -/
def stampTellsUptoRow : OpenClaim := { program := "ytgfokmgbphhpjaa", sum := "a716d7dbf7383088fbbfa2fa3890604a4627606fac6409c3ca903a28105f9d98", func := "organon/organonlaw11.StampTells", spec := "stampTells", unfollowed := true, recurses := true, loops := true, apart := false, narrowed := true }
def StampTellsUptoSaid : Prop := stampTellsUptoRow.holds Try.pinned (OpenSpec.upto stampTellsSpec)

/-- 'organonlaw11.StampBits', WHERE WHAT IT READS IS OF BULK AT MOST 1048576: true; the input reads as it did. -/
def stampBitsUptoRow : OpenClaim := { program := "ytgfokmgbphhpjaa", sum := "a716d7dbf7383088fbbfa2fa3890604a4627606fac6409c3ca903a28105f9d98", func := "organon/organonlaw11.StampBits", spec := "stampBits", unfollowed := true, recurses := true, apart := false, narrowed := true }
def StampBitsUptoSaid : Prop := stampBitsUptoRow.holds Try.pinned (OpenSpec.upto stampBitsSpec)

/-- 'organonlaw11.StampKeeps', WHERE WHAT IT READS IS OF BULK AT MOST 1048576: true; the input reads as it did. -/
def stampKeepsUptoRow : OpenClaim := { program := "ytgfokmgbphhpjaa", sum := "a716d7dbf7383088fbbfa2fa3890604a4627606fac6409c3ca903a28105f9d98", func := "organon/organonlaw11.StampKeeps", spec := "stampKeeps", unfollowed := true, recurses := true, apart := false, narrowed := true }
def StampKeepsUptoSaid : Prop := stampKeepsUptoRow.holds Try.pinned (OpenSpec.upto stampKeepsSpec)

/-- 'organonlaw11.StampPlays', WHERE WHAT IT READS IS OF BULK AT MOST 1048576: true; the input reads as it did. -/
def stampPlaysUptoRow : OpenClaim := { program := "ytgfokmgbphhpjaa", sum := "a716d7dbf7383088fbbfa2fa3890604a4627606fac6409c3ca903a28105f9d98", func := "organon/organonlaw11.StampPlays", spec := "stampPlays", unfollowed := true, recurses := true, apart := false, narrowed := true }
def StampPlaysUptoSaid : Prop := stampPlaysUptoRow.holds Try.pinned (OpenSpec.upto stampPlaysSpec)

/-- 'organonlaw11.StampSame', WHERE WHAT IT READS IS OF BULK AT MOST 1048576: true; the input reads as it did. -/
def stampSameUptoRow : OpenClaim := { program := "ytgfokmgbphhpjaa", sum := "a716d7dbf7383088fbbfa2fa3890604a4627606fac6409c3ca903a28105f9d98", func := "organon/organonlaw11.StampSame", spec := "stampSame", unfollowed := true, recurses := true, loops := true, apart := false, narrowed := true }
def StampSameUptoSaid : Prop := stampSameUptoRow.holds Try.pinned (OpenSpec.upto stampSameSpec)

/-- 'organonlaw11.StampUnlike', WHERE WHAT IT READS IS OF BULK AT MOST 1048576: true; the input reads as it did. -/
def stampUnlikeUptoRow : OpenClaim := { program := "ytgfokmgbphhpjaa", sum := "a716d7dbf7383088fbbfa2fa3890604a4627606fac6409c3ca903a28105f9d98", func := "organon/organonlaw11.StampUnlike", spec := "stampUnlike", unfollowed := true, recurses := true, loops := true, apart := false, narrowed := true }
def StampUnlikeUptoSaid : Prop := stampUnlikeUptoRow.holds Try.pinned (OpenSpec.upto stampUnlikeSpec)

end Rows
end Go.Proofs.Ytgfokmgbphhpjaa
