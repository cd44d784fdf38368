/- A file that was cut off while a version was appended has all versions before it, and the new one exactly if no byte is missing. -/
import Derived.Test.YtolckgeffmaakaaQLCrash
import Derived.Test.YtolckgeffmaakaaX17
namespace Go.Proofs.Ytolckgeffmaakaa.Pure
open Go.RowKit Go.Proofs.Ytolckgeffmaakaa.X Go.Proofs.YtolckgeffmaakaaW.PrintWords Go.Proofs.YtolckgeffmaakaaW.PrintLast
theorem StoreCrash : railplanlaw41_StoreCrash.Pure := by
  intro l0 n t a2 h0 _ ht _
  have h1 : l0.length * 8 ≤ 140737488351232 := h0.1
  exact Ev.rounds (Q.crash_law l0 n t a2 (by omega) ht)
end Go.Proofs.Ytolckgeffmaakaa.Pure
