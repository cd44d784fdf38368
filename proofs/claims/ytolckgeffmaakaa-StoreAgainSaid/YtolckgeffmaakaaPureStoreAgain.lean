/- A version whose record was cut off can be appended again, with the same result. -/
import Derived.Test.YtolckgeffmaakaaQLAgain
import Derived.Test.YtolckgeffmaakaaX18
namespace Go.Proofs.Ytolckgeffmaakaa.Pure
open Go.RowKit Go.Proofs.Ytolckgeffmaakaa.X Go.Proofs.YtolckgeffmaakaaW.PrintWords Go.Proofs.YtolckgeffmaakaaW.PrintLast
theorem StoreAgain : railplanlaw41_StoreAgain.Pure := by
  intro l0 n t a2 h0 _ ht _
  have h1 : l0.length * 8 ≤ 140737488351232 := h0.1
  exact Ev.rounds (Q.again_law l0 n t a2 (by omega) ht)
end Go.Proofs.Ytolckgeffmaakaa.Pure
