/- Name of the program: the names, in plain words. -/
import Derived.Test.YtkegdgdkfbmabaaQBase
import Derived.Test.YtkegdgdkfbmabaaX4
namespace Go.Proofs.Ytkegdgdkfbmabaa.Q
open Go.RowKit Go.Proofs.YtkegdgdkfbmabaaW.PrintWords Go.Proofs.YtkegdgdkfbmabaaW.PrintLast Go.Proofs.YtkegdgdkfbmabaaW.PrintMore Go.Proofs.Ytkegdgdkfbmabaa.X
def isL (c : Int) : Bool := decide (65 ≤ c ∧ c ≤ 90 ∨ 97 ≤ c ∧ c ≤ 122)
def isD (c : Int) : Bool := decide (48 ≤ c ∧ c ≤ 57)
theorem w_letter (c : Int) : words_letter.f c = some (isL c) := by
  unfold words_letter.f isL
  repeat' split
  all_goals (congr 1; first | (symm; rw [decide_eq_true_eq]; omega) | (symm; rw [decide_eq_false_iff_not]; omega) | (rw [decide_eq_decide]; omega))
theorem w_digit (c : Int) : words_digit.f c = some (isD c) := by
  unfold words_digit.f isD
  repeat' split
  all_goals (congr 1; first | (symm; rw [decide_eq_true_eq]; omega) | (symm; rw [decide_eq_false_iff_not]; omega) | (rw [decide_eq_decide]; omega))
def okc (c : Int) : Bool := isL c || isD c || decide (c = 95)
def allFrom (s : ByteArray) : Nat → Int → Bool
  | 0, _ => true
  | m + 1, i => okc (bt s i) && allFrom s m (i + 1)
theorem w_loop (s : ByteArray) (hs : s.size ≤ 12) (m : Nat) : ∀ i : Int, 0 ≤ i → i + m = s.size → Ev (fun k => words_Name.l0 k s (s.size : Int) i) (allFrom s m i) := by
  induction m with
  | zero =>
    intro i h0 hm
    refine Ev.step (fun k => by simp only [words_Name.l0]; rw [if_neg (by omega)]) ?_
    exact evs rfl
  | succ m ih =>
    intro i h0 hm
    refine Ev.step (fun k => by simp only [words_Name.l0]; rw [if_pos (by omega), if_pos h0, if_pos (by omega), w_letter, Option.bind_some, w_digit, Option.bind_some, w64 (by omega) (by omega)]) ?_
    have hi := ih (i + 1) (by omega) (by omega)
    unfold allFrom okc
    cases h1 : isL (bt s i) with
    | true => exact evp rfl (ev_eq hi (by simp))
    | false =>
      refine evn (by decide) ?_
      cases h2 : isD (bt s i) with
      | true => exact evp rfl (ev_eq hi (by simp))
      | false =>
        refine evn (by decide) ?_
        by_cases h3 : bt s i = 95
        · exact evp h3 (ev_eq hi (by simp [h3]))
        · exact evn h3 (evs (by simp [h3]))
def nameS (s : ByteArray) : Bool := decide (1 ≤ s.size) && (decide (s.size ≤ 12) && (isL (bt s 0) && allFrom s (s.size - 1) 1))
theorem w_j0 (s : ByteArray) (b : Bool) (hs : b = false → 1 ≤ s.size ∧ s.size ≤ 12 ∧ isL (bt s 0) = true) (r : Bool) (hr : r = (if b then false else allFrom s (s.size - 1) 1)) : Ev (fun k => words_Name.j0 k s b) r := by
  refine Ev.step (fun k => by simp only [words_Name.j0]; rfl) ?_
  subst hr
  cases b with
  | true => exact evp rfl (evs rfl)
  | false =>
    obtain ⟨h1, h2, h3⟩ := hs rfl
    refine evn (by decide) (ev_eq (w_loop s h2 s.size 0 (by omega) (by omega)) ?_)
    obtain ⟨m, hm⟩ : ∃ m, s.size = m + 1 := ⟨s.size - 1, by omega⟩
    rw [hm]
    show (okc (bt s 0) && allFrom s m (0 + 1)) = _
    simp [okc, h3]
theorem w_name (s : ByteArray) : Ev (fun k => words_Name.f k s) (nameS s) := by
  unfold words_Name.f nameS
  by_cases h0 : s.toList = ([] : List UInt8)
  · have hz : s.size = 0 := by rw [ba_toList] at h0; rw [← ba_size, h0]; rfl
    exact evp h0 (w_j0 s true (by intro h; cases h) _ (by simp [hz]))
  · have hz : 1 ≤ s.size := by
      rcases Nat.eq_zero_or_pos s.size with h | h
      · exact absurd (by rw [ba_toList]; exact List.length_eq_zero_iff.1 (by rw [ba_size]; exact h)) h0
      · exact h
    refine evn h0 ?_
    by_cases h1 : (s.size : Int) > 12
    · exact evp h1 (w_j0 s true (by intro h; cases h) _ (by simp [show ¬ s.size ≤ 12 by omega]))
    · refine evn h1 (evp (by omega) ?_)
      rw [w_letter]
      refine ev1 rfl (w_j0 s _ (fun h => ⟨hz, by omega, by simpa using h⟩) _ ?_)
      cases isL (bt s 0) <;> simp [hz, show s.size ≤ 12 by omega]
theorem name_size {s : ByteArray} (h : nameS s = true) : s.size ≤ 12 := by
  unfold nameS at h
  rw [Bool.and_eq_true, Bool.and_eq_true] at h
  exact of_decide_eq_true h.2.1
end Go.Proofs.Ytkegdgdkfbmabaa.Q
