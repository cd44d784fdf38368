/- Name of the program and of the reference answer alike. -/
import Derived.Test.YtnmbljpifadipaaDoorQLNames
import Derived.Test.YtnmbljpifadipaaDoorX13
namespace Go.Proofs.YtnmbljpifadipaaDoor.Pure
open Go.RowKit Go.Proofs.YtnmbljpifadipaaDoor.X Go.Proofs.YtnmbljpifadipaaDoorW.PrintWords Go.Proofs.YtnmbljpifadipaaDoorW.PrintLast
open Go.Proofs.YtnmbljpifadipaaDoor.Q in
theorem WordsNames : railplanlaw3_WordsNames.Pure := by
  intro s l hs hl
  refine Ev.rounds ?_
  obtain ⟨r, hr, hE⟩ := Q.pieces l hl.2.2
  unfold railplanlaw3_WordsNames.f
  refine ev2 hE ?_
  have hm : mn (r.size : Int) 14 = min (r.size : Int) 14 := by unfold mn; split <;> omega
  rw [hm]
  refine evp (by omega) (evp (by omega) (ev2 Q.awake (evp rfl ?_)))
  refine ev2 (Q.w_name s) (ev2 (Q.r_name s) (evp (by simp) ?_))
  refine ev2 (Q.w_name _) (ev2 (Q.r_name _) (evp (by simp) ?_))
  refine evp (by rw [ByteArray.size_extract]; omega) ?_
  refine ev2 (Q.w_name _) (ev2 (Q.r_name _) (evs (by simp)))
end Go.Proofs.YtnmbljpifadipaaDoor.Pure
