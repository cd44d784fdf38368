/- Lines of the program and of the reference answer alike. -/
import Derived.Test.YtnmbljpifadipaaDoorQLLines
import Derived.Test.YtnmbljpifadipaaDoorQLNames
import Derived.Test.YtnmbljpifadipaaDoorX0
import Derived.Test.YtnmbljpifadipaaDoorX6
import Derived.Test.YtnmbljpifadipaaDoorX15
namespace Go.Proofs.YtnmbljpifadipaaDoor.Pure
set_option linter.unusedVariables false
set_option linter.unusedSimpArgs false
open Go.RowKit Go.Proofs.YtnmbljpifadipaaDoor.X Go.Proofs.YtnmbljpifadipaaDoorW.PrintWords Go.Proofs.YtnmbljpifadipaaDoorW.PrintLast
theorem same_w_l0 (l : List Q.Wd) (hl : l.length ≤ 4294967296) (m : Nat) : ∀ i : Nat, i + m = l.length → Ev (fun k => api_Word_16.l0 k l l (l.length : Int) (i : Int)) true := by
  induction m with
  | zero => intro i hm; exact Ev.step (fun k => by simp only [api_Word_16.l0]; rw [if_neg (by omega)]) (Q.evs rfl)
  | succ m ih =>
    intro i hm
    refine Ev.step (fun k => by rw [api_Word_16.l0]) (Q.evp (by omega) (Q.evp (by omega) (Q.evp (by omega) (Q.evp (by omega) ?_))))
    rw [Q.w64 (by omega) (by omega)]
    refine Q.evn (by simp) ?_
    exact ih (i + 1) (by omega)
theorem same_w (l : List Q.Wd) (hl : l.length ≤ 4294967296) : Ev (fun k => api_Word_16.f k l l) true := by
  unfold api_Word_16.f
  exact Q.evp rfl (same_w_l0 l hl l.length 0 (by omega))
theorem same_l_l0 (l : List (List Q.Wd)) (hl : l.length ≤ 4294967296) (he : ∀ x ∈ l, x.length ≤ 4294967296) (m : Nat) : ∀ i : Nat, i + m = l.length → Ev (fun k => api_Word_38.l0 k l l (l.length : Int) (i : Int)) true := by
  induction m with
  | zero => intro i hm; exact Ev.step (fun k => by simp only [api_Word_38.l0]; rw [if_neg (by omega)]) (Q.evs rfl)
  | succ m ih =>
    intro i hm
    refine Ev.step (fun k => by rw [api_Word_38.l0]) (Q.evp (by omega) (Q.evp (by omega) (Q.evp (by omega) (Q.evp (by omega) ?_))))
    rw [Q.w64 (by omega) (by omega)]
    refine Q.ev2 (same_w _ ?_) (Q.evp rfl (ih (i + 1) (by omega)))
    apply he
    unfold rd_L3
    rw [Int.toNat_natCast, List.getD_eq_getElem?_getD, List.getElem?_eq_getElem (by omega)]
    exact List.getElem_mem _
theorem same_l (l : List (List Q.Wd)) (hl : l.length ≤ 4294967296) (he : ∀ x ∈ l, x.length ≤ 4294967296) : Ev (fun k => api_Word_38.f k l l) true := by
  unfold api_Word_38.f
  exact Q.evp rfl (same_l_l0 l hl he l.length 0 (by omega))
theorem finL_len (num : Int) (o : Option (List (Nat × List UInt8))) : (Q.finL num [] o).1.length ≤ 64 := by
  unfold Q.finL
  cases o with
  | none => simp
  | some ts => simp only; split <;> simp_all
theorem linesS_len : ∀ (ps : List (List UInt8)) (num : Int) (outs : List (List Q.Wd)), (∀ x ∈ outs, x.length ≤ 64) → (Q.linesS num outs ps).1.length ≤ outs.length + ps.length ∧ ∀ x ∈ (Q.linesS num outs ps).1, x.length ≤ 64
  | [], num, outs, h => ⟨by simp [Q.linesS], h⟩
  | p :: ps, num, outs, h => by
    unfold Q.linesS
    have hp : (Q.lnS (num + 1) p).1.length ≤ 64 := finL_len _ _
    by_cases he : (Q.lnS (num + 1) p).2 = 0
    · rw [if_pos he]
      by_cases h2 : (Q.lnS (num + 1) p).1.length = 0
      · rw [if_pos h2]
        obtain ⟨a, b⟩ := linesS_len ps (num + 1) outs h
        exact ⟨by rw [List.length_cons]; omega, b⟩
      · rw [if_neg h2]
        obtain ⟨a, b⟩ := linesS_len ps (num + 1) (outs ++ [(Q.lnS (num + 1) p).1]) (fun x hx => by
          rcases List.mem_append.1 hx with hx | hx
          · exact h x hx
          · rw [List.mem_singleton.1 hx]; exact hp)
        exact ⟨by rw [List.length_append] at a; simp at a ⊢; omega, b⟩
    · rw [if_neg he]
      exact ⟨by simp, by simp⟩
theorem linesA_len (L : List UInt8) : (Q.linesA L).1.length ≤ 65537 ∧ ∀ x ∈ (Q.linesA L).1, x.length ≤ 64 := by
  unfold Q.linesA
  split
  · exact ⟨by simp, by simp⟩
  · obtain ⟨a, b⟩ := linesS_len (Q.segs L) 0 [] (fun x hx => by cases hx)
    have := Q.segs_len L
    exact ⟨by simp at a; omega, b⟩
theorem same_lines (s : ByteArray) : Ev (fun k => railplanlaw3_sameLines.f k s) true := by
  unfold railplanlaw3_sameLines.f
  obtain ⟨h1, h2⟩ := linesA_len s.data.toList
  exact Q.ev2 (Q.w_lines s) (Q.ev2 (Q.r_lines s) (Q.ev2 (same_l _ (by omega) (fun x hx => by have := h2 x hx; omega)) (Q.evp rfl (Q.evp rfl (Q.evs (by simp))))))
theorem WordsLines : railplanlaw3_WordsLines.Pure := by
  intro s l hs hl
  refine Ev.rounds ?_
  obtain ⟨r, hr, hE⟩ := Q.pieces l hl.2.2
  unfold railplanlaw3_WordsLines.f
  exact Q.ev2 Q.awake (Q.evp rfl (Q.ev2 (same_lines s) (Q.evp rfl (Q.ev2 hE (Q.ev2 (same_lines r) (Q.evs rfl))))))
end Go.Proofs.YtnmbljpifadipaaDoor.Pure
