/- Encode of the program and of the reference return the same record and error, for every version; each text takes at most 2^47 bytes. -/
import Derived.Test.YtolckgeffmaakaaQLEncode
import Derived.Test.YtolckgeffmaakaaX14
namespace Go.Proofs.Ytolckgeffmaakaa.Pure
open Go.RowKit Go.Proofs.Ytolckgeffmaakaa.X Go.Proofs.YtolckgeffmaakaaW.PrintWords Go.Proofs.YtolckgeffmaakaaW.PrintLast
theorem StoreEncode : railplanlaw41_StoreEncode.Pure := by
  intro n t p _ ht _
  exact Ev.rounds (Q.encode_law n t p ht)
end Go.Proofs.Ytolckgeffmaakaa.Pure
