/- Range of the program and of the reference. -/
import Derived.Lib.IndexMore
import Derived.Test.YtnmbljpifadipaaDoorQLNum
import Derived.Test.YtnmbljpifadipaaDoorX18
import Derived.Test.YtnmbljpifadipaaDoorQLaid
namespace Go.Proofs.YtnmbljpifadipaaDoor.Q
open Go Go.RowKit Go.Proofs.YtnmbljpifadipaaDoorW.PrintWords Go.Proofs.YtnmbljpifadipaaDoorW.PrintLast Go.Proofs.YtnmbljpifadipaaDoorW.PrintMore Go.Proofs.YtnmbljpifadipaaDoor.X
set_option linter.unusedVariables false
set_option linter.unusedSimpArgs false
def resR (a b : Int × Bool) : Int × Int × Bool := if a.2 = true then (if b.2 = true then (if a.1 > b.1 then (0, 0, false) else (a.1, b.1, true)) else (0, 0, false)) else (0, 0, false)
def rangeS (L : List UInt8) : Int × Int × Bool := if Lib.index L [46, 46] < 0 then (0, 0, false) else resR (numS (L.take (Lib.index L [46, 46]).toNat)) (numS (L.drop ((Lib.index L [46, 46]).toNat + 2)))
theorem w_range (s : ByteArray) (hs : s.size < 4294967281) : words_Range.f s = some (rangeS s.data.toList) := by
  unfold words_Range.f rangeS
  rw [if_pos hs]
  have hc : cutS s ⟨#[46, 46]⟩ = if 0 ≤ Lib.index s.data.toList [46, 46] then (⟨(s.data.toList.take (Lib.index s.data.toList [46, 46]).toNat).toArray⟩, ⟨(s.data.toList.drop ((Lib.index s.data.toList [46, 46]).toNat + 2)).toArray⟩, true) else (s, ⟨[].toArray⟩, false) := by
    unfold cutS Lib.cut
    show (ByteArray.mk (if 0 ≤ Lib.index s.data.toList [46, 46] then _ else _ : List UInt8 × List UInt8 × Bool).1.toArray, _, _) = _
    by_cases h : 0 ≤ Lib.index s.data.toList [46, 46]
    · rw [if_pos h, if_pos h]; rfl
    · rw [if_neg h, if_neg h]
  have hsz := ba_size s
  by_cases h : 0 ≤ Lib.index s.data.toList [46, 46]
  · rw [hc, if_pos h, if_neg (show ¬ Lib.index s.data.toList [46, 46] < 0 by omega)]
    simp only
    rw [w_number _ (by rw [← ba_size]; simp; omega), w_number _ (by rw [← ba_size]; simp; omega)]
    simp only [Option.bind_some]
    generalize numS _ = a
    generalize numS _ = b
    obtain ⟨a1, a2⟩ := a
    obtain ⟨b1, b2⟩ := b
    unfold resR
    cases a2 <;> cases b2 <;> simp <;> split <;> rfl
  · rw [hc, if_neg h, if_pos (show Lib.index s.data.toList [46, 46] < 0 by omega)]
    simp only
    rw [w_number _ (by omega), w_number _ (by rw [← ba_size]; simp)]
    rfl
theorem index_dd_cons (c : UInt8) (l : List UInt8) : Lib.index (c :: l) [46, 46] = if c = 46 ∧ l.head? = some 46 then 0 else if Lib.index l [46, 46] = -1 then -1 else Lib.index l [46, 46] + 1 := by
  rw [Lib.index]
  have h1 : (List.isPrefixOf [46, 46] (c :: l) = true) ↔ (c = 46 ∧ l.head? = some 46) := by
    cases l with
    | nil => simp [List.isPrefixOf]
    | cons d l => simp [List.isPrefixOf]; exact ⟨fun h => ⟨h.1.symm, h.2.symm⟩, fun h => ⟨h.1.symm, h.2.symm⟩⟩
  by_cases h : c = 46 ∧ l.head? = some 46
  · rw [if_pos (h1.2 h), if_pos h]
  · rw [if_neg (fun e => h (h1.1 e)), if_neg h]
    by_cases h2 : Lib.index l [46, 46] = -1
    · rw [if_pos h2, if_pos (by simpa using h2)]
    · rw [if_neg h2, if_neg (by simpa using h2)]
/-- What the reference's loop answers from place i on. -/
def resAt (L : List UInt8) (i : Nat) (j : Int) : Int × Int × Bool := if j < 0 then (0, 0, false) else resR (numS (L.take (i + j.toNat))) (numS (L.drop (i + j.toNat + 2)))
theorem resAt_succ (L : List UInt8) (i : Nat) (j : Int) (h : -1 ≤ j) : resAt L i (if j = -1 then -1 else j + 1) = resAt L (i + 1) j := by
  unfold resAt
  by_cases h1 : j = -1
  · subst h1; rfl
  · rw [if_neg h1, if_neg (by omega), if_neg (by omega), show i + (j + 1).toNat = i + 1 + j.toNat by omega]
theorem r_range_l0 (s : ByteArray) (hs : s.size ≤ 281474976710656) (m : Nat) : ∀ i : Nat, i + m = s.size → Ev (fun k => railplanref1_Range.l0 k s (i : Int)) (resAt s.data.toList i (Lib.index (s.data.toList.drop i) [46, 46])) := by
  have hsz := ba_size s
  induction m with
  | zero =>
    intro i hm
    rw [List.drop_eq_nil_of_le (by omega)]
    exact Ev.step (fun k => by simp only [railplanref1_Range.l0]; rw [w64 (by omega) (by omega), if_neg (by omega)]; rfl) (evs rfl)
  | succ m ih =>
    intro i hm
    obtain ⟨c, hd, hc⟩ := drop_cons (s := s) (i := i) (by omega)
    have e1 : wrap64 ((i : Int) + 1) = ((i + 1 : Nat) : Int) := by rw [w64 (by omega) (by omega)]; omega
    have e2 : wrap64 ((i : Int) + 2) = ((i + 2 : Nat) : Int) := by rw [w64 (by omega) (by omega)]; omega
    have hge := Lib.index_ge (s.data.toList.drop (i + 1)) [46, 46]
    refine Ev.step (fun k => by simp only [railplanref1_Range.l0]; rw [e1, hc]) ?_
    rw [hd, index_dd_cons]
    by_cases hlt : ((i + 1 : Nat) : Int) < (s.size : Int)
    · refine evp hlt (evp (by omega) (evp (by omega) ?_))
      obtain ⟨d, hd2, hc2⟩ := drop_cons (s := s) (i := i + 1) (by omega)
      have hno : ∀ o : Bool, o = false → ¬ (c = 46 ∧ (s.data.toList.drop (i + 1)).head? = some 46) → Ev (fun k => railplanref1_Range.j1 k s (i : Int) o) (resAt s.data.toList i (if c = 46 ∧ (s.data.toList.drop (i + 1)).head? = some 46 then 0 else if Lib.index (s.data.toList.drop (i + 1)) [46, 46] = -1 then -1 else Lib.index (s.data.toList.drop (i + 1)) [46, 46] + 1)) := by
        intro o ho hn
        subst ho
        rw [if_neg hn, resAt_succ _ _ _ hge]
        refine Ev.step (fun k => by simp only [railplanref1_Range.j1]; rw [if_neg (by decide), e1]) ?_
        exact ih (i + 1) (by omega)
      by_cases h46 : (c.toNat : Int) = 46
      · have hcc : c = 46 := UInt8.toNat_inj.1 (by show c.toNat = 46; omega)
        refine evp h46 (evp (by omega) ?_)
        rw [hc2]
        by_cases hd46 : (d.toNat : Int) = 46
        · have hdd : d = 46 := UInt8.toNat_inj.1 (by show d.toNat = 46; omega)
          rw [if_pos ⟨hcc, by rw [hd2, hdd]; rfl⟩, show ((d.toNat : Int) == 46) = true by simpa using hd46]
          refine Ev.step (fun k => by simp only [railplanref1_Range.j1]; rfl) ?_
          rw [e2]
          refine evp trivial (evp (by omega) (evp (by omega) ?_))
          simp only [Int.toNat_natCast]
          refine ev2 (r_number (s.extract 0 i)) (evp (by omega) (evp (by omega) (ev2 (r_number (s.extract (i + 2) s.size)) ?_)))
          have h1 : (s.extract 0 i).data.toList = s.data.toList.take i := by rw [ba_extract]; simp
          have h2 : (s.extract (i + 2) s.size).data.toList = s.data.toList.drop (i + 2) := by
            rw [ba_extract, List.take_of_length_le (by rw [List.length_drop]; omega)]
          rw [h1, h2]
          have hr : resAt s.data.toList i 0 = resR (numS (s.data.toList.take i)) (numS (s.data.toList.drop (i + 2))) := by
            unfold resAt
            rw [if_neg (by decide)]; rfl
          rw [hr]
          generalize numS _ = a
          generalize numS _ = b
          unfold resR
          by_cases ha : a.2 = true
          · refine evp ha ?_
            rw [if_pos ha]
            by_cases hb : b.2 = true
            · refine evp hb ?_
              rw [if_pos hb]
              by_cases hab : a.1 > b.1
              · exact evp hab (evs (by rw [if_pos hab]))
              · exact evn hab (evs (by rw [if_neg hab]))
            · exact evn hb (evs (by rw [if_neg hb]))
          · exact evn ha (evs (by rw [if_neg ha]))
        · exact hno _ (by simpa using hd46) (by rintro ⟨_, h⟩; rw [hd2] at h; simp at h; exact hd46 (by rw [h]; rfl))
      · exact evn h46 (hno _ rfl (by rintro ⟨h, _⟩; exact h46 (by rw [h]; rfl)))
    · have hnil : s.data.toList.drop (i + 1) = [] := List.drop_eq_nil_of_le (by omega)
      refine evn hlt (evs ?_)
      rw [hnil]; simp [Lib.index, resAt]
theorem r_range (s : ByteArray) (hs : s.size ≤ 281474976710656) : Ev (fun k => railplanref1_Range.f k s) (rangeS s.data.toList) := by
  have h := r_range_l0 s hs s.size 0 (by omega)
  unfold railplanref1_Range.f
  refine ev_eq h ?_
  unfold resAt rangeS
  rw [List.drop_zero, Nat.zero_add]
end Go.Proofs.YtnmbljpifadipaaDoor.Q
