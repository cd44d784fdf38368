/- The plain law of WordsExamples: reckoned. -/
import Derived.KernelRfl
import Derived.Test.YtnmbljpifadipaaDoorX12
namespace Go.Proofs.YtnmbljpifadipaaDoor.Pure
open Go.RowKit Go.Proofs.YtnmbljpifadipaaDoor.X Go.Proofs.YtnmbljpifadipaaDoorW.PrintWords Go.Proofs.YtnmbljpifadipaaDoorW.PrintLast
theorem awake : railplanlaw3_WordsExamples.f 60 = some true := by kernel_rfl
theorem WordsExamples : railplanlaw3_WordsExamples.Pure := ⟨60, awake⟩
end Go.Proofs.YtnmbljpifadipaaDoor.Pure
