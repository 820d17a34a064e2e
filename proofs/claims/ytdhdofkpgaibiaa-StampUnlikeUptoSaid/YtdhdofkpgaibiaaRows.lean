/-
  NARROWER THAN 'FOR EVERY INPUT', by the rows' own cells (each row's printed sentence says how): StampTells: loops · StampUnlike: loops · CacheLast: loops · CacheBits: loops.
  DERIVED. THE GIVEN ROWS OF THIS SEAT. 8 by the template 'for every input the law returns true; each argument reads behind the call as it read before'; 0 by the template 'total and deterministic' (their statements: YtdhdofkpgaibiaaTotals.lean).
  GIVEN WITH THE SEED: the statements are not yours to turn. If you find one false, say at which input.
  Laid BY PROGRAM, IN A SANDBOX (cutbox-rows.mjs): the forced cells as the released guide's own fill.sh prints them over the translation 2c488a72edf148f8… (all of the seat's roots in one cut). By AI agents, Wed Nov 11 2026. No macro, syntax, notation, axiom, sorry.
-/
import Derived.Test.YtdhdofkpgaibiaaChecked
import GoSem.Claim
import GoSem.ClaimJoined
import GoSem.ClaimMapViews
import Derived.JoinedTies
import Derived.KernelRfl
namespace Go.Proofs.Ytdhdofkpgaibiaa
/- THE CELL 'sum', in the pinned program and in every row, IS THE sha256 OF THE DUMP (.gsa) THAT YtdhdofkpgaibiaaProg.lean LOADS. Nothing in Lean hashes anything: it is a label: what it is worth is what the hold of that sum in a sandbox is worth. -/
noncomputable def Try.pinned : Pinned := { name := "ytdhdofkpgaibiaa", sum := "2c488a72edf148f88c28a4495c5cf4ad5beb56ee7ea86863791dc3428a1c7a9c", checked := Try.checked }
namespace Rows
def none {H : Type} : Left H := { results := [], args := [] }

/-- 'organonlaw11.StampTells': WHATEVER THE INPUT: true; the input reads as it did. -/
def stampTellsSpec : ChangeSpec := { name := "stampTells", fn := fun _ => fun
  | [d1, d2] => { results := [.lit (.bool true)], args := [d1, d2] }
  | _ => none }
def stampTellsRow : OpenClaim := { program := "ytdhdofkpgaibiaa", sum := "2c488a72edf148f88c28a4495c5cf4ad5beb56ee7ea86863791dc3428a1c7a9c", func := "organon/organonlaw11.StampTells", spec := "stampTells", unfollowed := true, recurses := true, loops := true, plainKeys := false, apart := false }
def StampTellsSaid : Prop := stampTellsRow.holds Try.pinned (OpenSpec.ofChange stampTellsSpec)

/-- ITS FALSE NEIGHBOUR: 'it returns false'. Refute it at one input. -/
def stampTellsWrong : ChangeSpec := { name := "stampTells", fn := fun _ => fun
  | [d1, d2] => { results := [.lit (.bool false)], args := [d1, d2] }
  | _ => none }
def StampTellsWrongFalsely : Prop := stampTellsRow.holds Try.pinned (OpenSpec.ofChange stampTellsWrong)

/-- 'organonlaw11.StampPlays': WHATEVER THE INPUT: true; the input reads as it did. -/
def stampPlaysSpec : ChangeSpec := { name := "stampPlays", fn := fun _ => fun
  | [d1, d2, d3] => { results := [.lit (.bool true)], args := [d1, d2, d3] }
  | _ => none }
def stampPlaysRow : OpenClaim := { program := "ytdhdofkpgaibiaa", sum := "2c488a72edf148f88c28a4495c5cf4ad5beb56ee7ea86863791dc3428a1c7a9c", func := "organon/organonlaw11.StampPlays", spec := "stampPlays", unfollowed := true, recurses := true, plainKeys := false, apart := false }
def StampPlaysSaid : Prop := stampPlaysRow.holds Try.pinned (OpenSpec.ofChange stampPlaysSpec)

/-- ITS FALSE NEIGHBOUR: 'it returns false'. Refute it at one input. -/
def stampPlaysWrong : ChangeSpec := { name := "stampPlays", fn := fun _ => fun
  | [d1, d2, d3] => { results := [.lit (.bool false)], args := [d1, d2, d3] }
  | _ => none }
def StampPlaysWrongFalsely : Prop := stampPlaysRow.holds Try.pinned (OpenSpec.ofChange stampPlaysWrong)

/-- 'organonlaw11.StampUnlike': WHATEVER THE INPUT: true; the input reads as it did. -/
def stampUnlikeSpec : ChangeSpec := { name := "stampUnlike", fn := fun _ => fun
  | [d] => { results := [.lit (.bool true)], args := [d] }
  | _ => none }
def stampUnlikeRow : OpenClaim := { program := "ytdhdofkpgaibiaa", sum := "2c488a72edf148f88c28a4495c5cf4ad5beb56ee7ea86863791dc3428a1c7a9c", func := "organon/organonlaw11.StampUnlike", spec := "stampUnlike", unfollowed := true, recurses := true, loops := true, plainKeys := false, apart := false }
def StampUnlikeSaid : Prop := stampUnlikeRow.holds Try.pinned (OpenSpec.ofChange stampUnlikeSpec)

/-- ITS FALSE NEIGHBOUR: 'it returns false'. Refute it at one input. -/
def stampUnlikeWrong : ChangeSpec := { name := "stampUnlike", fn := fun _ => fun
  | [d] => { results := [.lit (.bool false)], args := [d] }
  | _ => none }
def StampUnlikeWrongFalsely : Prop := stampUnlikeRow.holds Try.pinned (OpenSpec.ofChange stampUnlikeWrong)

/-- 'organonlaw16.CacheLast': WHATEVER THE INPUT: true; the input reads as it did. -/
def cacheLastSpec : ChangeSpec := { name := "cacheLast", fn := fun _ => fun
  | [d1, d2, d3] => { results := [.lit (.bool true)], args := [d1, d2, d3] }
  | _ => none }
def cacheLastRow : OpenClaim := { program := "ytdhdofkpgaibiaa", sum := "2c488a72edf148f88c28a4495c5cf4ad5beb56ee7ea86863791dc3428a1c7a9c", func := "organon/organonlaw16.CacheLast", spec := "cacheLast", unfollowed := true, recurses := true, loops := true, plainKeys := false, apart := false }
def CacheLastSaid : Prop := cacheLastRow.holds Try.pinned (OpenSpec.ofChange cacheLastSpec)

/-- ITS FALSE NEIGHBOUR: 'it returns false'. Refute it at one input. -/
def cacheLastWrong : ChangeSpec := { name := "cacheLast", fn := fun _ => fun
  | [d1, d2, d3] => { results := [.lit (.bool false)], args := [d1, d2, d3] }
  | _ => none }
def CacheLastWrongFalsely : Prop := cacheLastRow.holds Try.pinned (OpenSpec.ofChange cacheLastWrong)

/-- 'organonlaw16.CacheBits': WHATEVER THE INPUT: true; the input reads as it did. -/
def cacheBitsSpec : ChangeSpec := { name := "cacheBits", fn := fun _ => fun
  | [d1, d2, d3] => { results := [.lit (.bool true)], args := [d1, d2, d3] }
  | _ => none }
def cacheBitsRow : OpenClaim := { program := "ytdhdofkpgaibiaa", sum := "2c488a72edf148f88c28a4495c5cf4ad5beb56ee7ea86863791dc3428a1c7a9c", func := "organon/organonlaw16.CacheBits", spec := "cacheBits", unfollowed := true, recurses := true, loops := true, plainKeys := false, apart := false }
def CacheBitsSaid : Prop := cacheBitsRow.holds Try.pinned (OpenSpec.ofChange cacheBitsSpec)

/-- ITS FALSE NEIGHBOUR: 'it returns false'. Refute it at one input. -/
def cacheBitsWrong : ChangeSpec := { name := "cacheBits", fn := fun _ => fun
  | [d1, d2, d3] => { results := [.lit (.bool false)], args := [d1, d2, d3] }
  | _ => none }
def CacheBitsWrongFalsely : Prop := cacheBitsRow.holds Try.pinned (OpenSpec.ofChange cacheBitsWrong)

/-- 'organonlaw03.ParseTerms': WHATEVER THE INPUT: true; the input reads as it did. -/
def parseTermsSpec : ChangeSpec := { name := "parseTerms", fn := fun _ => fun
  | [d] => { results := [.lit (.bool true)], args := [d] }
  | _ => none }
def parseTermsRow : OpenClaim := { program := "ytdhdofkpgaibiaa", sum := "2c488a72edf148f88c28a4495c5cf4ad5beb56ee7ea86863791dc3428a1c7a9c", func := "organon/organonlaw03.ParseTerms", spec := "parseTerms", inPlace := ["internal/bytealg.IndexByteString", "internal/bytealg.IndexString"], unfollowed := true, recurses := true, named := ["internal/bytealg.MaxLen"], plainKeys := false, apart := false }
def ParseTermsSaid : Prop := parseTermsRow.holds Try.pinned (OpenSpec.ofChange parseTermsSpec)

/-- ITS FALSE NEIGHBOUR: 'it returns false'. Refute it at one input. -/
def parseTermsWrong : ChangeSpec := { name := "parseTerms", fn := fun _ => fun
  | [d] => { results := [.lit (.bool false)], args := [d] }
  | _ => none }
def ParseTermsWrongFalsely : Prop := parseTermsRow.holds Try.pinned (OpenSpec.ofChange parseTermsWrong)

/-- 'organonlaw03.ParseFormulas': WHATEVER THE INPUT: true; the input reads as it did. -/
def parseFormulasSpec : ChangeSpec := { name := "parseFormulas", fn := fun _ => fun
  | [d] => { results := [.lit (.bool true)], args := [d] }
  | _ => none }
def parseFormulasRow : OpenClaim := { program := "ytdhdofkpgaibiaa", sum := "2c488a72edf148f88c28a4495c5cf4ad5beb56ee7ea86863791dc3428a1c7a9c", func := "organon/organonlaw03.ParseFormulas", spec := "parseFormulas", inPlace := ["internal/bytealg.IndexByteString", "internal/bytealg.IndexString"], unfollowed := true, recurses := true, named := ["internal/bytealg.MaxLen"], plainKeys := false, apart := false }
def ParseFormulasSaid : Prop := parseFormulasRow.holds Try.pinned (OpenSpec.ofChange parseFormulasSpec)

/-- ITS FALSE NEIGHBOUR: 'it returns false'. Refute it at one input. -/
def parseFormulasWrong : ChangeSpec := { name := "parseFormulas", fn := fun _ => fun
  | [d] => { results := [.lit (.bool false)], args := [d] }
  | _ => none }
def ParseFormulasWrongFalsely : Prop := parseFormulasRow.holds Try.pinned (OpenSpec.ofChange parseFormulasWrong)

/-- 'organonlaw03.ParsePlaces': WHATEVER THE INPUT: true; the input reads as it did. -/
def parsePlacesSpec : ChangeSpec := { name := "parsePlaces", fn := fun _ => fun
  | [d] => { results := [.lit (.bool true)], args := [d] }
  | _ => none }
def parsePlacesRow : OpenClaim := { program := "ytdhdofkpgaibiaa", sum := "2c488a72edf148f88c28a4495c5cf4ad5beb56ee7ea86863791dc3428a1c7a9c", func := "organon/organonlaw03.ParsePlaces", spec := "parsePlaces", inPlace := ["internal/bytealg.IndexByteString", "internal/bytealg.IndexString"], unfollowed := true, recurses := true, named := ["internal/bytealg.MaxLen"], plainKeys := false, apart := false }
def ParsePlacesSaid : Prop := parsePlacesRow.holds Try.pinned (OpenSpec.ofChange parsePlacesSpec)

/-- ITS FALSE NEIGHBOUR: 'it returns false'. Refute it at one input. -/
def parsePlacesWrong : ChangeSpec := { name := "parsePlaces", fn := fun _ => fun
  | [d] => { results := [.lit (.bool false)], args := [d] }
  | _ => none }
def ParsePlacesWrongFalsely : Prop := parsePlacesRow.holds Try.pinned (OpenSpec.ofChange parsePlacesWrong)

/- THE SECOND FORM. 'bulk': how many values and letters a reading holds, each counted each time it is reached (what is shared counts as often as it is met; a slice's spare places count too). A statement '..UptoSaid' is the law's where the arguments, and the package variables that the reading takes, are together of bulk at most 1048576: NARROWER than '..Said'. Prove '..Said' where nothing that the law and all that it calls make is longer than what came in: it says more and counts as full. Else prove '..UptoSaid'. A law counts once. -/
mutual
def uptoBulk {H : Type} : DataW H → Nat
  | .lit (.string bytes) => bytes.length + 1
  | .lit _ => 1
  | .nil => 1
  | .ptr d => uptoBulk d + 1
  | .slice elems spare => uptoBulkAll elems + uptoBulkAll spare + 1
  | .agg parts => uptoBulkAll parts + 1
  | .iface _ d => uptoBulk d + 1
  | .map entries => uptoBulkEntries entries + 1
  | .held _ => 1
def uptoBulkAll {H : Type} : List (DataW H) → Nat
  | [] => 0
  | d :: r => uptoBulk d + uptoBulkAll r
def uptoBulkEntries {H : Type} : List (Lit × DataW H) → Nat
  | [] => 0
  | x :: r => uptoBulkEntry x + uptoBulkEntries r
def uptoBulkEntry {H : Type} : Lit × DataW H → Nat
  | (.string bytes, d) => bytes.length + uptoBulk d + 1
  | (_, d) => uptoBulk d + 1
 end
def uptoSmall : (H : Type) → List (DataW H) → Bool := fun _ ds => decide (uptoBulkAll ds ≤ 1048576)
def OpenSpec.upto (s : _root_.Go.ChangeSpec) : _root_.Go.OpenSpec := { _root_.Go.OpenSpec.ofChange s with cond := some uptoSmall }

/-- 'organonlaw11.StampTells', WHERE WHAT IT READS IS OF BULK AT MOST 1048576: true; the input reads as it did. -/
def stampTellsUptoRow : OpenClaim := { program := "ytdhdofkpgaibiaa", sum := "2c488a72edf148f88c28a4495c5cf4ad5beb56ee7ea86863791dc3428a1c7a9c", func := "organon/organonlaw11.StampTells", spec := "stampTells", unfollowed := true, recurses := true, loops := true, plainKeys := false, apart := false, narrowed := true }
def StampTellsUptoSaid : Prop := stampTellsUptoRow.holds Try.pinned (OpenSpec.upto stampTellsSpec)

/-- 'organonlaw11.StampPlays', WHERE WHAT IT READS IS OF BULK AT MOST 1048576: true; the input reads as it did. -/
def stampPlaysUptoRow : OpenClaim := { program := "ytdhdofkpgaibiaa", sum := "2c488a72edf148f88c28a4495c5cf4ad5beb56ee7ea86863791dc3428a1c7a9c", func := "organon/organonlaw11.StampPlays", spec := "stampPlays", unfollowed := true, recurses := true, plainKeys := false, apart := false, narrowed := true }
def StampPlaysUptoSaid : Prop := stampPlaysUptoRow.holds Try.pinned (OpenSpec.upto stampPlaysSpec)

/-- 'organonlaw11.StampUnlike', WHERE WHAT IT READS IS OF BULK AT MOST 1048576: true; the input reads as it did. -/
def stampUnlikeUptoRow : OpenClaim := { program := "ytdhdofkpgaibiaa", sum := "2c488a72edf148f88c28a4495c5cf4ad5beb56ee7ea86863791dc3428a1c7a9c", func := "organon/organonlaw11.StampUnlike", spec := "stampUnlike", unfollowed := true, recurses := true, loops := true, plainKeys := false, apart := false, narrowed := true }
def StampUnlikeUptoSaid : Prop := stampUnlikeUptoRow.holds Try.pinned (OpenSpec.upto stampUnlikeSpec)

/-- 'organonlaw16.CacheLast', WHERE WHAT IT READS IS OF BULK AT MOST 1048576: true; the input reads as it did. -/
def cacheLastUptoRow : OpenClaim := { program := "ytdhdofkpgaibiaa", sum := "2c488a72edf148f88c28a4495c5cf4ad5beb56ee7ea86863791dc3428a1c7a9c", func := "organon/organonlaw16.CacheLast", spec := "cacheLast", unfollowed := true, recurses := true, loops := true, plainKeys := false, apart := false, narrowed := true }
def CacheLastUptoSaid : Prop := cacheLastUptoRow.holds Try.pinned (OpenSpec.upto cacheLastSpec)

/-- 'organonlaw16.CacheBits', WHERE WHAT IT READS IS OF BULK AT MOST 1048576: true; the input reads as it did. -/
def cacheBitsUptoRow : OpenClaim := { program := "ytdhdofkpgaibiaa", sum := "2c488a72edf148f88c28a4495c5cf4ad5beb56ee7ea86863791dc3428a1c7a9c", func := "organon/organonlaw16.CacheBits", spec := "cacheBits", unfollowed := true, recurses := true, loops := true, plainKeys := false, apart := false, narrowed := true }
def CacheBitsUptoSaid : Prop := cacheBitsUptoRow.holds Try.pinned (OpenSpec.upto cacheBitsSpec)

/-- 'organonlaw03.ParseTerms', WHERE WHAT IT READS IS OF BULK AT MOST 1048576: true; the input reads as it did. -/
def parseTermsUptoRow : OpenClaim := { program := "ytdhdofkpgaibiaa", sum := "2c488a72edf148f88c28a4495c5cf4ad5beb56ee7ea86863791dc3428a1c7a9c", func := "organon/organonlaw03.ParseTerms", spec := "parseTerms", inPlace := ["internal/bytealg.IndexByteString", "internal/bytealg.IndexString"], unfollowed := true, recurses := true, named := ["internal/bytealg.MaxLen"], plainKeys := false, apart := false, narrowed := true }
def ParseTermsUptoSaid : Prop := parseTermsUptoRow.holds Try.pinned (OpenSpec.upto parseTermsSpec)

/-- 'organonlaw03.ParseFormulas', WHERE WHAT IT READS IS OF BULK AT MOST 1048576: true; the input reads as it did. -/
def parseFormulasUptoRow : OpenClaim := { program := "ytdhdofkpgaibiaa", sum := "2c488a72edf148f88c28a4495c5cf4ad5beb56ee7ea86863791dc3428a1c7a9c", func := "organon/organonlaw03.ParseFormulas", spec := "parseFormulas", inPlace := ["internal/bytealg.IndexByteString", "internal/bytealg.IndexString"], unfollowed := true, recurses := true, named := ["internal/bytealg.MaxLen"], plainKeys := false, apart := false, narrowed := true }
def ParseFormulasUptoSaid : Prop := parseFormulasUptoRow.holds Try.pinned (OpenSpec.upto parseFormulasSpec)

/-- 'organonlaw03.ParsePlaces', WHERE WHAT IT READS IS OF BULK AT MOST 1048576: true; the input reads as it did. -/
def parsePlacesUptoRow : OpenClaim := { program := "ytdhdofkpgaibiaa", sum := "2c488a72edf148f88c28a4495c5cf4ad5beb56ee7ea86863791dc3428a1c7a9c", func := "organon/organonlaw03.ParsePlaces", spec := "parsePlaces", inPlace := ["internal/bytealg.IndexByteString", "internal/bytealg.IndexString"], unfollowed := true, recurses := true, named := ["internal/bytealg.MaxLen"], plainKeys := false, apart := false, narrowed := true }
def ParsePlacesUptoSaid : Prop := parsePlacesUptoRow.holds Try.pinned (OpenSpec.upto parsePlacesSpec)

end Rows
end Go.Proofs.Ytdhdofkpgaibiaa
