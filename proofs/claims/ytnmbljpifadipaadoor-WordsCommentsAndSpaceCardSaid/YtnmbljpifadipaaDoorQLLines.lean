/- A text's lines: what Lines of the program and of the reference answer. -/
import Derived.Lib.IndexMore
import Derived.Test.YtnmbljpifadipaaDoorQBase
import Derived.Test.YtnmbljpifadipaaDoorQLLine
import Derived.Test.YtnmbljpifadipaaDoorX15
import Derived.Test.YtnmbljpifadipaaDoorQLaid
import Derived.Test.YtnmbljpifadipaaDoorQLine
import Derived.Test.YtnmbljpifadipaaDoorQLines
import Derived.Test.YtnmbljpifadipaaDoorQSplit
namespace Go.Proofs.YtnmbljpifadipaaDoor.Q
open Go Go.RowKit Go.Proofs.YtnmbljpifadipaaDoorW.PrintWords Go.Proofs.YtnmbljpifadipaaDoorW.PrintLast Go.Proofs.YtnmbljpifadipaaDoorW.PrintMore Go.Proofs.YtnmbljpifadipaaDoor.X
set_option linter.unusedVariables false
set_option linter.unusedSimpArgs false
/-- The lines of a text, the last one too where it is empty. -/
def segs : List UInt8 → List (List UInt8)
  | [] => [[]]
  | c :: l => if c = 10 then [] :: segs l else (c :: (segs l).headD []) :: (segs l).tail
theorem segs_ne (l : List UInt8) : segs l ≠ [] := by cases l with | nil => simp [segs] | cons c l => unfold segs; split <;> simp
theorem segs_cons (l : List UInt8) : segs l = (segs l).headD [] :: (segs l).tail := by
  cases h : segs l with
  | nil => exact absurd h (segs_ne l)
  | cons a b => rfl
theorem segs_app : ∀ (p l : List UInt8), (∀ c ∈ p, c ≠ 10) → segs (p ++ 10 :: l) = p :: segs l
  | [], l, _ => by show segs (10 :: l) = _; rw [segs, if_pos rfl]
  | c :: p, l, h => by
    show segs (c :: (p ++ 10 :: l)) = _
    rw [segs, if_neg (h c (List.mem_cons_self ..)), segs_app p l (fun d hd => h d (List.mem_cons_of_mem _ hd))]; rfl
theorem segs_one : ∀ (p : List UInt8), (∀ c ∈ p, c ≠ 10) → segs p = [p]
  | [], _ => rfl
  | c :: p, h => by rw [segs, if_neg (h c (List.mem_cons_self ..)), segs_one p (fun d hd => h d (List.mem_cons_of_mem _ hd))]; rfl
theorem ib10 : ∀ (l : List UInt8), (Lib.indexByte l 10 < 0 ∧ ∀ c ∈ l, c ≠ 10) ∨ ∃ p r, l = p ++ 10 :: r ∧ (∀ c ∈ p, c ≠ 10) ∧ Lib.indexByte l 10 = (p.length : Int)
  | [] => .inl ⟨by decide, fun c h => by cases h⟩
  | b :: l => by
    unfold Lib.indexByte
    by_cases hb : b = 10
    · subst hb
      exact .inr ⟨[], l, rfl, (fun c h => by cases h), by simp⟩
    · have hbb : (b == 10) = false := by simpa using hb
      rcases ib10 l with ⟨h1, h2⟩ | ⟨p, r, h1, h2, h3⟩
      · refine .inl ⟨?_, fun c hc => ?_⟩
        · have := Lib.indexByte_ge l 10
          have e : Lib.indexByte l 10 = -1 := by omega
          simp [hbb, e]
        · rcases List.mem_cons.1 hc with rfl | hc
          · exact hb
          · exact h2 c hc
      · refine .inr ⟨b :: p, r, by rw [h1]; rfl, fun c hc => ?_, ?_⟩
        · rcases List.mem_cons.1 hc with rfl | hc
          · exact hb
          · exact h2 c hc
        · have : (Lib.indexByte l 10 == -1) = false := by rw [h3, beq_eq_false_iff_ne]; omega
          simp [hbb, this, h3]
theorem pcs_segs (m : Nat) : ∀ s : ByteArray, s.size ≤ m → (pcs m s).map (·.data.toList) = segs s.data.toList := by
  induction m with
  | zero =>
    intro s hs
    have : s.data.toList = [] := List.length_eq_zero_iff.1 (by rw [ba_size]; omega)
    simp [pcs, this, segs]
  | succ m ih =>
    intro s hs
    unfold pcs
    rcases ib10 s.data.toList with ⟨h1, h2⟩ | ⟨p, r, h1, h2, h3⟩
    · rw [if_pos h1, segs_one _ h2]; rfl
    · have hl : s.size = p.length + (r.length + 1) := by rw [← ba_size, h1, List.length_append, List.length_cons]
      rw [if_neg (by omega), List.map_cons, ih _ (by rw [ByteArray.size_extract]; omega), ba_extract, ba_extract, h3]
      have e1 : ((p.length : Int)).toNat = p.length := Int.toNat_natCast _
      have e2 : ((p.length : Int) + 1).toNat = p.length + 1 := by omega
      rw [e1, e2, h1]
      have hd : List.drop (p.length + 1) (p ++ 10 :: r) = r := by
        rw [← List.drop_drop, List.drop_left]; rfl
      have hl2 : s.size - (p.length + 1) = r.length := by omega
      rw [hd, hl2, List.take_length, List.drop_zero, Nat.sub_zero, List.take_left, segs_app p r h2]
/-- One line: its comment is left out. -/
def lnS (num : Int) (p : List UInt8) : List Wd × Int := finL num [] (toks 0 none (p.takeWhile nh))
def linesS : Int → List (List Wd) → List (List UInt8) → List (List Wd) × Int × Int
  | _, outs, [] => (outs, 0, 0)
  | num, outs, p :: ps => if (lnS (num + 1) p).2 = 0 then linesS (num + 1) (if (lnS (num + 1) p).1.length = 0 then outs else outs ++ [(lnS (num + 1) p).1]) ps else ([], num + 1, (lnS (num + 1) p).2)
theorem index_one : ∀ (l : List UInt8), (Lib.index l [35] = -1 ∧ l.takeWhile nh = l) ∨ (Lib.index l [35] = ((l.takeWhile nh).length : Int))
  | [] => .inl ⟨by decide, rfl⟩
  | b :: l => by
    unfold Lib.index
    by_cases hb : b = 35
    · subst hb
      right
      rw [List.takeWhile_cons_of_neg nh_35]; rfl
    · have hp : List.isPrefixOf [35] (b :: l) = false := by
        simp [List.isPrefixOf]; exact fun h => hb h.symm
      rw [List.takeWhile_cons_of_pos (nh_no hb)]
      simp only [hp, Bool.false_eq_true, if_false]
      rcases index_one l with ⟨h1, h2⟩ | h1
      · exact .inl ⟨by rw [h1]; rfl, by rw [h2]⟩
      · right
        rw [h1]
        have : (((l.takeWhile nh).length : Int) == -1) = false := by rw [beq_eq_false_iff_ne]; omega
        simp [this]
theorem cut_hash (p : ByteArray) : (cutS p ⟨#[35]⟩).1.data.toList = p.data.toList.takeWhile nh := by
  unfold cutS Lib.cut
  show (if 0 ≤ Lib.index p.data.toList [35] then _ else _ : List UInt8 × List UInt8 × Bool).1.toArray.toList = _
  rw [List.toList_toArray]
  rcases index_one p.data.toList with ⟨h1, h2⟩ | h1
  · rw [if_neg (by rw [h1]; decide), h2]
  · rw [if_pos (by rw [h1]; omega), h1, Int.toNat_natCast]
    show List.take _ _ = _
    have : ∀ l : List UInt8, l.take (l.takeWhile nh).length = l.takeWhile nh := by
      intro l
      induction l with
      | nil => rfl
      | cons c l ih =>
        by_cases hc : nh c = true
        · rw [List.takeWhile_cons_of_pos hc, List.length_cons, List.take_succ_cons, ih]
        · rw [List.takeWhile_cons_of_neg hc]; rfl
    exact this _
theorem lnS_w (p : ByteArray) (hp : p.size ≤ 65536) (num : Int) : Ev (fun k => words_line.f k (cutS p ⟨#[35]⟩).1 num) (lnS num p.data.toList) := by
  have h := cut_hash p
  have hs : (cutS p ⟨#[35]⟩).1.size ≤ 65536 := by
    rw [← ba_size, h]
    exact Nat.le_trans (List.takeWhile_sublist _).length_le (by rw [ba_size]; exact hp)
  have := w_line _ hs num
  rw [h] at this
  exact this
theorem w_lines_go : ∀ (ps : List ByteArray) (num : Nat) (outs : List (List Wd)), (∀ p ∈ ps, p.size ≤ 65536) → num + ps.length ≤ 65537 → outs.length ≤ num →
    Ev (fun k => words_Lines.go k ps (num : Int) outs) (linesS (num : Int) outs (ps.map (·.data.toList)))
  | [], num, outs, _, _, _ => Ev.congr (fun k => by simp only [words_Lines.go]; rfl) (evs rfl)
  | p :: ps, num, outs, hp, hn, ho => by
    have hpp := hp p (List.mem_cons_self ..)
    rw [List.length_cons] at hn
    have e1 : wrap64 ((num : Int) + 1) = ((num + 1 : Nat) : Int) := by rw [w64 (by omega) (by omega)]; omega
    have e2 : ((num : Int) + 1) = ((num + 1 : Nat) : Int) := by omega
    refine Ev.congr (fun k => by simp only [words_Lines.go]; rw [if_pos (by omega), e1]) (ev2 (lnS_w p hpp _) ?_)
    rw [List.map_cons, linesS, e2]
    by_cases h : (lnS ((num + 1 : Nat) : Int) p.data.toList).2 = 0
    · rw [if_pos h]
      refine evp h ?_
      by_cases h2 : (lnS ((num + 1 : Nat) : Int) p.data.toList).1.length = 0
      · rw [if_pos h2]
        refine evn (by omega) ?_
        exact w_lines_go ps (num + 1) outs (fun q hq => hp q (List.mem_cons_of_mem _ hq)) (by omega) (by omega)
      · rw [if_neg h2]
        refine evp (by omega) (evp (by omega) ?_)
        exact w_lines_go ps (num + 1) _ (fun q hq => hp q (List.mem_cons_of_mem _ hq)) (by omega) (by rw [List.length_append]; simp; omega)
    · rw [if_neg h]
      exact evn h (evs rfl)
theorem segs_len : ∀ l : List UInt8, (segs l).length ≤ l.length + 1
  | [] => by simp [segs]
  | c :: l => by
    have := segs_len l
    have h1 := segs_cons l
    unfold segs
    split
    · simp; omega
    · rw [h1] at this; simp at this ⊢; omega
theorem pcs_le (m : Nat) : ∀ s : ByteArray, ∀ p ∈ pcs m s, p.size ≤ s.size := by
  induction m with
  | zero => intro s p hp; simp [pcs] at hp; rw [hp]; exact Nat.le_refl _
  | succ m ih =>
    intro s p hp
    unfold pcs at hp
    split at hp
    · simp at hp; rw [hp]; exact Nat.le_refl _
    · rcases List.mem_cons.1 hp with rfl | hp
      · rw [ByteArray.size_extract]; omega
      · have := ih _ p hp; rw [ByteArray.size_extract] at this; omega
/-- What Lines answers. -/
def linesA (L : List UInt8) : List (List Wd) × Int × Int := if L.length > 65536 then ([], 0, 7) else linesS 0 [] (segs L)
theorem w_lines (s : ByteArray) : Ev (fun k => words_Lines.f k s) (linesA s.data.toList) := by
  unfold words_Lines.f linesA
  rw [ba_size]
  by_cases h : (s.size : Int) > 65536
  · exact evp h (evs (by rw [if_pos (by omega)]))
  · refine evn h ?_
    rw [if_neg (by omega), ← pcs_segs s.size s (Nat.le_refl _)]
    have hl : (pcs s.size s).length ≤ s.size + 1 := by
      have h1 := segs_len s.data.toList
      rw [← pcs_segs s.size s (Nat.le_refl _), List.length_map, ba_size] at h1
      exact h1
    exact w_lines_go _ 0 [] (fun p hp => Nat.le_trans (pcs_le _ _ p hp) (by omega)) (by omega) (Nat.le_refl _)
/-! the reference -/
theorem r_lines_l1 (s : ByteArray) (hs : s.size ≤ 65536) (outs : List (List Wd)) (line : Int) (i : Nat) (r : List (List Wd) × Int × Int) (p : List UInt8) : ∀ (j : Nat), j + p.length ≤ s.size → (s.data.toList.drop j).take p.length = p → (∀ c ∈ p, c ≠ 10) → (j + p.length = s.size ∨ bt s ((j + p.length : Nat) : Int) = 10) →
    Ev (fun k => railplanref1_Lines.j2 k s outs line (i : Int) ((j + p.length : Nat) : Int)) r → Ev (fun k => railplanref1_Lines.l1 k s outs line (i : Int) (j : Int)) r := by
  induction p with
  | nil =>
    intro j hj _ _ he hE
    refine Ev.step (fun k => by simp only [railplanref1_Lines.l1]; rfl) ?_
    rcases he with he | he
    · simp at he
      exact evn (by omega) hE
    · simp at he hE
      by_cases hjs : (j : Int) < (s.size : Int)
      · exact evp hjs (evp (by omega) (evp he hE))
      · exact evn hjs hE
  | cons c p ih =>
    intro j hj hp hn he hE
    rw [List.length_cons] at hj he hE hp
    obtain ⟨d, hd, hdc⟩ := drop_cons (s := s) (i := j) (by omega)
    rw [hd, List.take_succ_cons] at hp
    obtain ⟨rfl, hp2⟩ := List.cons.inj hp
    have h10 : (d.toNat : Int) ≠ 10 := fun h => hn d (List.mem_cons_self ..) (UInt8.toNat_inj.1 (by show d.toNat = 10; omega))
    refine Ev.step (fun k => by simp only [railplanref1_Lines.l1]; rw [if_pos (by omega), if_pos (by omega), hdc, if_neg h10, w64 (by omega) (by omega)]) ?_
    have := ih (j + 1) (by omega) hp2 (fun x hx => hn x (List.mem_cons_of_mem _ hx)) (by rw [show j + 1 + p.length = j + (p.length + 1) by omega]; exact he) (by rw [show j + 1 + p.length = j + (p.length + 1) by omega]; exact hE)
    rw [show ((j : Int) + 1) = ((j + 1 : Nat) : Int) by omega]
    exact this
theorem lnS_nil (num : Int) : lnS num [] = ([], 0) := rfl
theorem r_lines_l0 (s : ByteArray) (hs : s.size ≤ 65536) (d : Nat) : ∀ (i num : Nat) (outs : List (List Wd)), s.size + 1 - i ≤ d → i ≤ s.size + 1 → num ≤ i → outs.length ≤ num →
    Ev (fun k => railplanref1_Lines.l0 k s outs ((num + 1 : Nat) : Int) (i : Int)) (if i < s.size + 1 then linesS (num : Int) outs (segs (s.data.toList.drop i)) else (outs, 0, 0)) := by
  induction d with
  | zero =>
    intro i num outs hd hi hni hon
    refine Ev.step (fun k => by simp only [railplanref1_Lines.l0]; rw [if_neg (by omega)]) ?_
    exact evs (by rw [if_neg (by omega)])
  | succ d ih =>
    intro i num outs hd hi hni hon
    refine Ev.step (fun k => by simp only [railplanref1_Lines.l0]; rfl) ?_
    by_cases hlt : (i : Int) < (s.size : Int)
    · refine evp hlt ?_
      rw [if_pos (by omega)]
      have hsz := ba_size s
      obtain ⟨p, r, hpn, hcase⟩ : ∃ p r, (∀ c ∈ p, c ≠ 10) ∧ ((s.data.toList.drop i = p ++ 10 :: r) ∨ (s.data.toList.drop i = p ∧ r = [])) := by
        rcases ib10 (s.data.toList.drop i) with ⟨_, h2⟩ | ⟨p, r, h1, h2, _⟩
        · exact ⟨_, [], h2, .inr ⟨rfl, rfl⟩⟩
        · exact ⟨p, r, h2, .inl h1⟩
      have hpl : i + p.length ≤ s.size ∧ (s.data.toList.drop i).take p.length = p ∧ (i + p.length = s.size ∨ bt s ((i + p.length : Nat) : Int) = 10) ∧ segs (s.data.toList.drop i) = p :: (if i + p.length < s.size then segs (s.data.toList.drop (i + p.length + 1)) else []) := by
        rcases hcase with h | ⟨h, _⟩
        · have hl : (s.data.toList.drop i).length = p.length + (r.length + 1) := by rw [h, List.length_append, List.length_cons]
          rw [List.length_drop, hsz] at hl
          have hdd : s.data.toList.drop (i + p.length) = 10 :: r := by rw [← List.drop_drop, h, List.drop_left]
          refine ⟨by omega, by rw [h, List.take_left], .inr ?_, ?_⟩
          · obtain ⟨c, hc1, hc2⟩ := drop_cons (s := s) (i := i + p.length) (by omega)
            rw [hdd] at hc1
            rw [hc2, ← (List.cons.inj hc1).1]; rfl
          · rw [if_pos (by omega), h, segs_app p r hpn]
            congr 2
            rw [← List.drop_drop, hdd]; rfl
        · have hl : (s.data.toList.drop i).length = p.length := by rw [h]
          rw [List.length_drop, hsz] at hl
          refine ⟨by omega, by rw [h, List.take_of_length_le (Nat.le_refl _)], .inl (by omega), ?_⟩
          rw [if_neg (by omega), h, segs_one p hpn]
      obtain ⟨p1, p2, p3, p4⟩ := hpl
      refine r_lines_l1 s hs outs _ i _ p i p1 p2 hpn p3 ?_
      refine Ev.step (fun k => by simp only [railplanref1_Lines.j2]; rw [if_pos (by omega), if_pos (by omega), if_pos (by omega), w64 (by omega) (by omega), w64 (by omega) (by omega)]) ?_
      simp only [Int.toNat_natCast]
      have hex : (s.extract i (i + p.length)).data.toList = p := by rw [ba_extract, show i + p.length - i = p.length by omega, p2]
      have h1 := r_one (s.extract i (i + p.length)) (by rw [ByteArray.size_extract]; omega) ((num + 1 : Nat) : Int)
      rw [hex] at h1
      refine ev2 h1 ?_
      rw [p4, linesS, show ((num : Int) + 1) = ((num + 1 : Nat) : Int) by omega]
      show Ev _ (if (lnS _ p).2 = 0 then _ else _)
      have hrest : ∀ outs2 : List (List Wd), outs2.length ≤ num + 1 → Ev (fun k => railplanref1_Lines.l0 k s outs2 (((num + 1 : Nat) : Int) + 1) (((i + p.length : Nat) : Int) + 1)) (linesS ((num + 1 : Nat) : Int) outs2 (if i + p.length < s.size then segs (s.data.toList.drop (i + p.length + 1)) else [])) := by
        intro outs2 ho2
        have := ih (i + p.length + 1) (num + 1) outs2 (by omega) (by omega) (by omega) ho2
        rw [show (((num + 1 : Nat) : Int) + 1) = ((num + 1 + 1 : Nat) : Int) by omega, show (((i + p.length : Nat) : Int) + 1) = ((i + p.length + 1 : Nat) : Int) by omega]
        refine ev_eq this ?_
        by_cases hq : i + p.length < s.size
        · rw [if_pos (by omega), if_pos hq]
        · rw [if_neg (by omega), if_neg hq]; rfl
      by_cases he : (lnS ((num + 1 : Nat) : Int) p).2 = 0
      · rw [if_pos he]
        refine evp he ?_
        by_cases h2 : (lnS ((num + 1 : Nat) : Int) p).1.length = 0
        · rw [if_pos h2]
          exact evn (by show ¬ (((lnS ((num + 1 : Nat) : Int) p).1.length : Nat) : Int) > 0; omega) (hrest outs (by omega))
        · rw [if_neg h2]
          refine evp (by show (((lnS ((num + 1 : Nat) : Int) p).1.length : Nat) : Int) > 0; omega) (evp (by omega) ?_)
          exact hrest _ (by rw [List.length_append]; simp; omega)
      · rw [if_neg he]
        exact evn he (evs rfl)
    · refine evn hlt (evs ?_)
      by_cases h2 : i < s.size + 1
      · rw [if_pos h2, List.drop_eq_nil_of_le (by rw [ba_size]; omega)]
        simp [segs, linesS, lnS_nil]
      · rw [if_neg h2]
theorem r_lines (s : ByteArray) : Ev (fun k => railplanref1_Lines.f k s) (linesA s.data.toList) := by
  unfold railplanref1_Lines.f linesA
  rw [ba_size]
  by_cases h : (s.size : Int) > 65536
  · exact evp h (evs (by rw [if_pos (by omega)]))
  · refine evn h ?_
    rw [if_neg (by omega)]
    have := r_lines_l0 s (by omega) (s.size + 1) 0 0 [] (by omega) (by omega) (by omega) (Nat.le_refl _)
    rw [if_pos (by omega)] at this
    exact this
end Go.Proofs.YtnmbljpifadipaaDoor.Q
