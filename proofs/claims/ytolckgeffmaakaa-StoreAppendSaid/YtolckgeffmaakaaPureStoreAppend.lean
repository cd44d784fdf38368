/- Append of the program and of the reference return the same file and error, for every version and for damaged files. -/
import Derived.Test.YtolckgeffmaakaaQLAppend
import Derived.Test.YtolckgeffmaakaaX16
namespace Go.Proofs.Ytolckgeffmaakaa.Pure
open Go.RowKit Go.Proofs.Ytolckgeffmaakaa.X Go.Proofs.YtolckgeffmaakaaW.PrintWords Go.Proofs.YtolckgeffmaakaaW.PrintLast
theorem StoreAppend : railplanlaw41_StoreAppend.Pure := by
  intro l0 n t a2 a3 a4 h0 _ ht _ _ _
  have h1 : l0.length * 8 ≤ 140737488351232 := h0.1
  exact Ev.rounds (Q.append_law l0 n t a2 a3 a4 (by omega) ht)
end Go.Proofs.Ytolckgeffmaakaa.Pure
