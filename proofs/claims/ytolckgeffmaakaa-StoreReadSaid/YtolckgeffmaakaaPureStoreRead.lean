/- Latest, Get and Compact of the program and of the reference return the same. -/
import Derived.Test.YtolckgeffmaakaaQLRead
import Derived.Test.YtolckgeffmaakaaX22
namespace Go.Proofs.Ytolckgeffmaakaa.Pure
open Go.RowKit Go.Proofs.Ytolckgeffmaakaa.X Go.Proofs.YtolckgeffmaakaaW.PrintWords Go.Proofs.YtolckgeffmaakaaW.PrintLast
theorem StoreRead : railplanlaw41_StoreRead.Pure := by
  intro a0 l1 a2 a3 a4 a5 a6 h0 _ h1 _ _ _ _ _ _
  exact Ev.rounds (Q.read_law a0 l1 a2 a3 a4 a5 a6 h0 (by omega))
end Go.Proofs.Ytolckgeffmaakaa.Pure
