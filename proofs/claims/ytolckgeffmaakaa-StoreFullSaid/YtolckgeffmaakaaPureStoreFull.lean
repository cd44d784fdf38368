/- No more than 64 versions are kept in a file. -/
import Derived.Test.YtolckgeffmaakaaQLFull
import Derived.Test.YtolckgeffmaakaaX21
namespace Go.Proofs.Ytolckgeffmaakaa.Pure
open Go.RowKit Go.Proofs.Ytolckgeffmaakaa.X Go.Proofs.YtolckgeffmaakaaW.PrintWords Go.Proofs.YtolckgeffmaakaaW.PrintLast
theorem StoreFull : railplanlaw41_StoreFull.Pure := by
  intro a0 _
  exact Ev.rounds (Q.full_law a0)
end Go.Proofs.Ytolckgeffmaakaa.Pure
