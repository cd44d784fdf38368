/- Scan of the program and of the reference return the same versions and number of bytes, for every file and for damaged ones. -/
import Derived.Test.YtolckgeffmaakaaQLScan
import Derived.Test.YtolckgeffmaakaaX15
namespace Go.Proofs.Ytolckgeffmaakaa.Pure
open Go.RowKit Go.Proofs.Ytolckgeffmaakaa.X Go.Proofs.YtolckgeffmaakaaW.PrintWords Go.Proofs.YtolckgeffmaakaaW.PrintLast
theorem StoreScan : railplanlaw41_StoreScan.Pure := by
  intro a0 l1 a2 a3 a4 h0 _ h1 _ _ _ _
  exact Ev.rounds (Q.scan_law a0 l1 a2 a3 a4 h0 (by omega))
end Go.Proofs.Ytolckgeffmaakaa.Pure
