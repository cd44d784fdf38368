/- Number and Range of the program and of the reference answer alike. -/
import Derived.Test.YtnmbljpifadipaaDoorQLRange
import Derived.Test.YtnmbljpifadipaaDoorQLNames
import Derived.Test.YtnmbljpifadipaaDoorX18
namespace Go.Proofs.YtnmbljpifadipaaDoor.Pure
set_option linter.unusedVariables false
open Go Go.RowKit Go.Proofs.YtnmbljpifadipaaDoor.X Go.Proofs.YtnmbljpifadipaaDoorW.PrintWords Go.Proofs.YtnmbljpifadipaaDoorW.PrintLast
theorem num_step (xs : List ByteArray) (hx : ∀ x ∈ xs, x.size < 4294967281) (hl : xs.length ≤ 3) (m : Nat) : ∀ i : Nat, i + m = xs.length → Ev (fun k => railplanlaw3_WordsNumbers.l0 k xs (xs.length : Int) (i : Int)) true := by
  induction m with
  | zero =>
    intro i hm
    refine Ev.step (fun k => by simp only [railplanlaw3_WordsNumbers.l0]; rw [if_neg (by omega)]) ?_
    exact Q.ev2 Q.awake (Q.evs rfl)
  | succ m ih =>
    intro i hm
    refine Ev.step (fun k => by rw [railplanlaw3_WordsNumbers.l0]) (Q.evp (by omega) (Q.evp (by omega) (Q.evp (by omega) ?_)))
    have hs : (rdOf ByteArray.empty xs (i : Int)).size < 4294967281 := by
      apply hx
      unfold rdOf
      rw [Int.toNat_natCast, List.getD_eq_getElem?_getD, List.getElem?_eq_getElem (by omega)]
      exact List.getElem_mem _
    generalize rdOf ByteArray.empty xs (i : Int) = s at hs ⊢
    refine Q.ev1 (Q.w_number s (by omega)) (Q.ev2 (Q.r_number s) (Q.ev1 (Q.w_range s hs) (Q.ev2 (Q.r_range s (by omega)) ?_)))
    refine Q.evp rfl (Q.evn (by simp) (Q.evp rfl (Q.evp rfl (Q.evn (by simp) ?_))))
    rw [Q.w64 (by omega) (by omega)]
    exact ih (i + 1) (by omega)
theorem WordsNumbers : railplanlaw3_WordsNumbers.Pure := by
  intro s l hs hl hb
  refine Ev.rounds ?_
  obtain ⟨r, hr, hE⟩ := Q.pieces l hl.2.2
  unfold railplanlaw3_WordsNumbers.f
  refine Q.ev2 hE ?_
  have hm : mn (r.size : Int) 12 = min (r.size : Int) 12 := by unfold mn; split <;> omega
  have hm3 : mn (r.size : Int) 3 = min (r.size : Int) 3 := by unfold mn; split <;> omega
  rw [hm, hm3]
  refine Q.evp (by omega) (Q.evp (by omega) (Q.evp (by omega) (Q.evp (by omega) (Q.ev1 rfl ?_))))
  refine num_step _ ?_ (by simp) 3 0 rfl
  intro x hx
  have h1 : s.size + 1 ≤ 1048576 := Nat.le_trans (Nat.le_add_right _ _) hb
  rcases List.mem_cons.1 hx with rfl | hx
  · omega
  rcases List.mem_cons.1 hx with rfl | hx
  · rw [ByteArray.size_extract]; omega
  · rw [List.mem_singleton.1 hx, ByteArray.size_extract]; omega
end Go.Proofs.YtnmbljpifadipaaDoor.Pure
