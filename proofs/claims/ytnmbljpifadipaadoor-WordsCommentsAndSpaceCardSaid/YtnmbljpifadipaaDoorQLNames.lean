/- The plain law of names; that the package is awake; the pieces. -/
import Derived.KernelRfl
import Derived.Test.YtnmbljpifadipaaDoorQBase
import Derived.Test.YtnmbljpifadipaaDoorX3
import Derived.Test.YtnmbljpifadipaaDoorX4
import Derived.Test.YtnmbljpifadipaaDoorX7
import Derived.Test.YtnmbljpifadipaaDoorX13
namespace Go.Proofs.YtnmbljpifadipaaDoor.Q
open Go.RowKit Go.Proofs.YtnmbljpifadipaaDoorW.PrintWords Go.Proofs.YtnmbljpifadipaaDoorW.PrintLast Go.Proofs.YtnmbljpifadipaaDoorW.PrintMore Go.Proofs.YtnmbljpifadipaaDoor.X

theorem awake60 : railplanlaw3_awake.f 60 = some true := by kernel_rfl
theorem awake : Ev (fun k => railplanlaw3_awake.f k) true := Ev.of (fun k => railplanlaw3_awake.mono k) awake60

def isL (c : Int) : Bool := decide (65 ≤ c ∧ c ≤ 90 ∨ 97 ≤ c ∧ c ≤ 122)
def isD (c : Int) : Bool := decide (48 ≤ c ∧ c ≤ 57)
theorem w_letter (c : Int) : words_letter.f c = some (isL c) := by
  unfold words_letter.f isL
  repeat' split
  all_goals (congr 1; first | (symm; rw [decide_eq_true_eq]; omega) | (symm; rw [decide_eq_false_iff_not]; omega) | (rw [decide_eq_decide]; omega))
theorem r_letter (c : Int) : railplanref1_letter.f c = some (isL c) := by
  unfold railplanref1_letter.f isL
  repeat' split
  all_goals (congr 1; first | (symm; rw [decide_eq_true_eq]; omega) | (symm; rw [decide_eq_false_iff_not]; omega) | (rw [decide_eq_decide]; omega))
theorem w_digit (c : Int) : words_digit.f c = some (isD c) := by
  unfold words_digit.f isD
  repeat' split
  all_goals (congr 1; first | (symm; rw [decide_eq_true_eq]; omega) | (symm; rw [decide_eq_false_iff_not]; omega) | (rw [decide_eq_decide]; omega))
theorem r_digit (c : Int) : railplanref1_digit.f c = some (isD c) := by
  unfold railplanref1_digit.f isD
  repeat' split
  all_goals (congr 1; first | (symm; rw [decide_eq_true_eq]; omega) | (symm; rw [decide_eq_false_iff_not]; omega) | (rw [decide_eq_decide]; omega))
def okc (c : Int) : Bool := isL c || isD c || decide (c = 95)
def allFrom (s : ByteArray) : Nat → Int → Bool
  | 0, _ => true
  | m + 1, i => okc (bt s i) && allFrom s m (i + 1)
theorem w_loop (s : ByteArray) (hs : s.size ≤ 12) (m : Nat) : ∀ i : Int, 0 ≤ i → i + m = s.size → Ev (fun k => words_Name.l0 k s (s.size : Int) i) (allFrom s m i) := by
  induction m with
  | zero =>
    intro i h0 hm
    refine Ev.step (fun k => by simp only [words_Name.l0]; rw [if_neg (by omega)]) ?_
    exact evs rfl
  | succ m ih =>
    intro i h0 hm
    refine Ev.step (fun k => by simp only [words_Name.l0]; rw [if_pos (by omega), if_pos h0, if_pos (by omega), w_letter, Option.bind_some, w_digit, Option.bind_some, w64 (by omega) (by omega)]) ?_
    have hi := ih (i + 1) (by omega) (by omega)
    unfold allFrom okc
    cases h1 : isL (bt s i) with
    | true => exact evp rfl (ev_eq hi (by simp))
    | false =>
      refine evn (by decide) ?_
      cases h2 : isD (bt s i) with
      | true => exact evp rfl (ev_eq hi (by simp))
      | false =>
        refine evn (by decide) ?_
        by_cases h3 : bt s i = 95
        · exact evp h3 (ev_eq hi (by simp [h3]))
        · exact evn h3 (evs (by simp [h3]))
theorem r_loop (s : ByteArray) (hs : s.size ≤ 12) (m : Nat) : ∀ i : Int, 0 ≤ i → i + m = s.size → Ev (fun k => railplanref1_Name.l0 k s i) (allFrom s m i) := by
  induction m with
  | zero =>
    intro i h0 hm
    refine Ev.step (fun k => by simp only [railplanref1_Name.l0]; rw [if_neg (by omega)]) ?_
    exact evs rfl
  | succ m ih =>
    intro i h0 hm
    refine Ev.step (fun k => by simp only [railplanref1_Name.l0]; rw [if_pos (by omega), if_pos h0, r_letter, Option.bind_some, r_digit, Option.bind_some, w64 (by omega) (by omega)]) ?_
    have hi := ih (i + 1) (by omega) (by omega)
    unfold allFrom okc
    cases h1 : isL (bt s i) with
    | true => exact evp rfl (ev_eq hi (by simp))
    | false =>
      refine evn (by decide) ?_
      cases h2 : isD (bt s i) with
      | true => exact evp rfl (ev_eq hi (by simp))
      | false =>
        refine evn (by decide) ?_
        by_cases h3 : bt s i = 95
        · exact evp h3 (ev_eq hi (by simp [h3]))
        · exact evn h3 (evs (by simp [h3]))
def nameS (s : ByteArray) : Bool := decide (1 ≤ s.size) && (decide (s.size ≤ 12) && (isL (bt s 0) && allFrom s (s.size - 1) 1))
theorem w_j0 (s : ByteArray) (b : Bool) (hs : b = false → 1 ≤ s.size ∧ s.size ≤ 12 ∧ isL (bt s 0) = true) (r : Bool) (hr : r = (if b then false else allFrom s (s.size - 1) 1)) : Ev (fun k => words_Name.j0 k s b) r := by
  refine Ev.step (fun k => by simp only [words_Name.j0]; rfl) ?_
  subst hr
  cases b with
  | true => exact evp rfl (evs rfl)
  | false =>
    obtain ⟨h1, h2, h3⟩ := hs rfl
    refine evn (by decide) (ev_eq (w_loop s h2 s.size 0 (by omega) (by omega)) ?_)
    obtain ⟨m, hm⟩ : ∃ m, s.size = m + 1 := ⟨s.size - 1, by omega⟩
    rw [hm]
    show (okc (bt s 0) && allFrom s m (0 + 1)) = _
    simp [okc, h3]
theorem w_name (s : ByteArray) : Ev (fun k => words_Name.f k s) (nameS s) := by
  unfold words_Name.f nameS
  by_cases h0 : s.toList = ([] : List UInt8)
  · have hz : s.size = 0 := by rw [ba_toList] at h0; rw [← ba_size, h0]; rfl
    exact evp h0 (w_j0 s true (by intro h; cases h) _ (by simp [hz]))
  · have hz : 1 ≤ s.size := by
      rcases Nat.eq_zero_or_pos s.size with h | h
      · exact absurd (by rw [ba_toList]; exact List.length_eq_zero_iff.1 (by rw [ba_size]; exact h)) h0
      · exact h
    refine evn h0 ?_
    by_cases h1 : (s.size : Int) > 12
    · exact evp h1 (w_j0 s true (by intro h; cases h) _ (by simp [show ¬ s.size ≤ 12 by omega]))
    · refine evn h1 (evp (by omega) ?_)
      rw [w_letter]
      refine ev1 rfl (w_j0 s _ (fun h => ⟨hz, by omega, by simpa using h⟩) _ ?_)
      cases isL (bt s 0) <;> simp [hz, show s.size ≤ 12 by omega]
theorem r_j0 (s : ByteArray) (b : Bool) (hs : b = false → 1 ≤ s.size ∧ s.size ≤ 12) (r : Bool) (hr : r = (if b then false else allFrom s (s.size - 1) 1)) : Ev (fun k => railplanref1_Name.j0 k s b) r := by
  refine Ev.step (fun k => by simp only [railplanref1_Name.j0]; rfl) ?_
  subst hr
  cases b with
  | true => exact evp rfl (evs rfl)
  | false =>
    obtain ⟨h1, h2⟩ := hs rfl
    exact evn (by decide) (r_loop s h2 (s.size - 1) 1 (by omega) (by omega))
theorem r_name (s : ByteArray) : Ev (fun k => railplanref1_Name.f k s) (nameS s) := by
  unfold railplanref1_Name.f nameS
  by_cases h0 : (s.size : Int) < 1
  · exact evp h0 (r_j0 s true (by intro h; cases h) _ (by simp [show ¬ 1 ≤ s.size by omega]))
  · refine evn h0 ?_
    by_cases h1 : (s.size : Int) > 12
    · exact evp h1 (r_j0 s true (by intro h; cases h) _ (by simp [show ¬ s.size ≤ 12 by omega]))
    · refine evn h1 (evp (by omega) ?_)
      rw [r_letter]
      refine ev1 rfl (r_j0 s _ (fun h => ⟨by omega, by omega⟩) _ ?_)
      cases isL (bt s 0) <;> simp [show 1 ≤ s.size by omega, show s.size ≤ 12 by omega]
/-! the pieces -/
def pieceL : List ByteArray := [(⟨#[97]⟩ : ByteArray), (⟨#[98, 57]⟩ : ByteArray), (⟨#[45]⟩ : ByteArray), (⟨#[48]⟩ : ByteArray), (⟨#[49, 50]⟩ : ByteArray), (⟨#[32]⟩ : ByteArray), (⟨#[9]⟩ : ByteArray), (⟨#[10]⟩ : ByteArray), (⟨#[35]⟩ : ByteArray), (⟨#[46, 46]⟩ : ByteArray), (⟨#[95]⟩ : ByteArray), (⟨#[49, 48, 57, 57, 53, 49, 49, 54, 50, 55, 55, 55, 54]⟩ : ByteArray), (⟨#[49, 48, 57, 57, 53, 49, 49, 54, 50, 55, 55, 55, 55]⟩ : ByteArray), (⟨#[13]⟩ : ByteArray), (⟨#[127]⟩ : ByteArray), (⟨#[126]⟩ : ByteArray), (⟨#[32, 32]⟩ : ByteArray), (⟨#[195, 169]⟩ : ByteArray), (⟨#[57, 46, 46, 55]⟩ : ByteArray), (⟨#[45, 51, 46, 46, 52]⟩ : ByteArray)]
theorem piece_small (j : Int) (h0 : 0 ≤ j) (h1 : j < 20) : (rdOf ByteArray.empty pieceL j).size ≤ 13 := by
  have h : ∀ n : Nat, n < 20 → (rdOf ByteArray.empty pieceL (n : Int)).size ≤ 13 := by decide
  have := h j.toNat (by omega)
  rwa [Int.toNat_of_nonneg h0] at this
theorem pieces_l (l : List Int) (hl : ∀ x ∈ l, 0 ≤ x ∧ x ≤ 255) (m : Nat) : ∀ (s : ByteArray) (i : Int), 0 ≤ i → i ≤ 80 → 80 ≤ i + m → s.size ≤ 13 * i.toNat → ∃ r, r.size ≤ 1040 ∧ Ev (fun k => railplanlaw3_pieces.l0 k l pieceL s i) r := by
  induction m with
  | zero =>
    intro s i h0 h1 h2 h3
    refine ⟨s, by omega, Ev.step (fun k => by simp only [railplanlaw3_pieces.l0]; rfl) ?_⟩
    by_cases c : i < (l.length : Int)
    · exact evp c (evn (by omega) (evs rfl))
    · exact evn c (evs rfl)
  | succ m ih =>
    intro s i h0 h1 h2 h3
    by_cases c : i < (l.length : Int)
    · by_cases c2 : i < 80
      · have hx : 0 ≤ rd l i ∧ rd l i ≤ 255 := by
          have : rd l i ∈ l := by
            unfold rd
            rw [List.getD_eq_getElem?_getD, List.getElem?_eq_getElem (by omega)]
            exact List.getElem_mem _
          exact hl _ this
        have e1 : wrap64 (rd l i) = rd l i := w64 (by omega) (by omega)
        have e2 : 0 ≤ Int.tmod (rd l i) 20 ∧ Int.tmod (rd l i) 20 < 20 := by
          rw [Int.tmod_eq_emod_of_nonneg hx.1]; omega
        have hp := piece_small _ e2.1 e2.2
        obtain ⟨r, hr, hE⟩ := ih (s ++ rdOf ByteArray.empty pieceL (Int.tmod (rd l i) 20)) (i + 1) (by omega) (by omega) (by omega) (by rw [ByteArray.size_append]; omega)
        refine ⟨r, hr, Ev.step (fun k => by simp only [railplanlaw3_pieces.l0]; rfl) ?_⟩
        refine evp c (evp c2 (evp h0 (evn (by decide) ?_)))
        rw [e1, show (pieceL.length : Int) = 20 from rfl, w64 (by omega) (by omega)]
        exact evp e2.1 (evp e2.2 (evp (by omega) hE))
      · refine ⟨s, by omega, Ev.step (fun k => by simp only [railplanlaw3_pieces.l0]; rfl) ?_⟩
        exact evp c (evn c2 (evs rfl))
    · refine ⟨s, by omega, Ev.step (fun k => by simp only [railplanlaw3_pieces.l0]; rfl) ?_⟩
      exact evn c (evs rfl)
theorem pieces (l : List Int) (hl : ∀ x ∈ l, (Lit.int .u8 x).wf = true) : ∃ r, r.size ≤ 1040 ∧ Ev (fun k => railplanlaw3_pieces.f k l) r :=
  pieces_l l (fun x hx => by have := hl x hx; simpa [Lit.wf, show IntKind.u8.min = 0 from rfl, show IntKind.u8.max = 255 from rfl] using this) 80 ⟨#[]⟩ 0 (by omega) (by omega) (by omega) (Nat.zero_le _)
end Go.Proofs.YtnmbljpifadipaaDoor.Q
