/- A compacted file has the last versions, and is accepted as a whole. -/
import Derived.Test.YtolckgeffmaakaaQLCompact
import Derived.Test.YtolckgeffmaakaaX20
namespace Go.Proofs.Ytolckgeffmaakaa.Pure
open Go.RowKit Go.Proofs.Ytolckgeffmaakaa.X Go.Proofs.YtolckgeffmaakaaW.PrintWords Go.Proofs.YtolckgeffmaakaaW.PrintLast
theorem StoreCompact : railplanlaw41_StoreCompact.Pure := by
  intro l0 a1 a2 a3 a4 _ h1 _ _ _ _ _
  exact Ev.rounds (Q.compact_law l0 a1 a2 a3 a4 (by omega))
end Go.Proofs.Ytolckgeffmaakaa.Pure
