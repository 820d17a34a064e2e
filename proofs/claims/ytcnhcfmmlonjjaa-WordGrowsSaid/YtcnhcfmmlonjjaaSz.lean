/- A second name for a word of the print, under which the printed rows of this seat look for it. -/
import Derived.Test.YtcnhcfmmlonjjaaWSized
namespace Go.Proofs.Ytcnhcfmmlonjjaa.PrintWords
abbrev sized_ints := @Go.Proofs.YtcnhcfmmlonjjaaW.PrintWords.sized_ints
end Go.Proofs.Ytcnhcfmmlonjjaa.PrintWords
namespace Go.Proofs.Ytcnhcfmmlonjjaa.Sz
end Go.Proofs.Ytcnhcfmmlonjjaa.Sz
