/- All versions that were appended can be read again; a version with a number that is not greater is refused. -/
import Derived.Test.YtolckgeffmaakaaQLHistory
import Derived.Test.YtolckgeffmaakaaX19
namespace Go.Proofs.Ytolckgeffmaakaa.Pure
open Go.RowKit Go.Proofs.Ytolckgeffmaakaa.X Go.Proofs.YtolckgeffmaakaaW.PrintWords Go.Proofs.YtolckgeffmaakaaW.PrintLast
theorem StoreHistory : railplanlaw41_StoreHistory.Pure := by
  intro l0 _ h1 _
  exact Ev.rounds (Q.history_law l0 (by omega))
end Go.Proofs.Ytolckgeffmaakaa.Pure
