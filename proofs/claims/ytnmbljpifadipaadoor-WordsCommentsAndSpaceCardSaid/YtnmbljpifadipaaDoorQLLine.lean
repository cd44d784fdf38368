/- A line's words: what the program's and the reference's loops over a line answer. -/
import Derived.Test.YtnmbljpifadipaaDoorQBase
import Derived.Test.YtnmbljpifadipaaDoorQLNum
import Derived.Test.YtnmbljpifadipaaDoorX2
import Derived.Test.YtnmbljpifadipaaDoorX9
import Derived.Test.YtnmbljpifadipaaDoorX15
import Derived.Test.YtnmbljpifadipaaDoorQLine
namespace Go.Proofs.YtnmbljpifadipaaDoor.Q
open Go Go.RowKit Go.Proofs.YtnmbljpifadipaaDoorW.PrintWords Go.Proofs.YtnmbljpifadipaaDoorW.PrintLast Go.Proofs.YtnmbljpifadipaaDoorW.PrintMore Go.Proofs.YtnmbljpifadipaaDoor.X
set_option linter.unusedVariables false
set_option linter.unusedSimpArgs false
abbrev Wd := S32
def mkW (num : Int) (t : Nat × List UInt8) : Wd := ⟨⟨t.2.toArray⟩, num, (t.1 : Int)⟩
def grC (c : UInt8) : Bool := decide (33 ≤ c.toNat) && (decide (c.toNat ≤ 126) && decide (c.toNat ≠ 35))
def blC (c : UInt8) : Bool := decide (c.toNat = 32) || decide (c.toNat = 9)
/-- The words of what is left of a line, from place i on; cur: the word that is open (its column, its bytes so far). Nothing: a byte that no word may hold. -/
def toks (i : Nat) (cur : Option (Nat × List UInt8)) : List UInt8 → Option (List (Nat × List UInt8))
  | [] => some cur.toList
  | c :: l =>
    if blC c = true then (toks (i + 1) none l).map (cur.toList ++ ·)
    else if grC c = true then toks (i + 1) (some (match cur with | none => (i + 1, [c]) | some t => (t.1, t.2 ++ [c]))) l
    else none
/-- No '#'. -/
def nh (c : UInt8) : Bool := decide (c ≠ 35)
theorem nh_no {c : UInt8} (h : c ≠ 35) : nh c = true := decide_eq_true h
theorem nh_35 : ¬ nh 35 = true := by decide
def finL (num : Int) (done : List Wd) (o : Option (List (Nat × List UInt8))) : List Wd × Int :=
  match o with
  | none => ([], 2)
  | some ts => if (done ++ ts.map (mkW num)).length > 64 then ([], 7) else (done ++ ts.map (mkW num), 0)
theorem finL_map (num : Int) (done : List Wd) (a : List (Nat × List UInt8)) (o : Option (List (Nat × List UInt8))) : finL num done (o.map (a ++ ·)) = finL num (done ++ a.map (mkW num)) o := by
  cases o with
  | none => rfl
  | some ts => simp only [finL, Option.map_some, List.map_append, List.append_assoc]
def grI (c : Int) : Bool := decide (33 ≤ c ∧ c ≤ 126 ∧ c ≠ 35)
theorem w_graphic (c : Int) : words_graphic.f c = some (grI c) := by
  unfold words_graphic.f grI
  repeat' split
  · congr 1
    rw [Bool.eq_iff_iff]; simp; omega
  · congr 1; symm; rw [decide_eq_false_iff_not]; omega
  · congr 1; symm; rw [decide_eq_false_iff_not]; omega
theorem r_plain (c : Int) : railplanref1_plain.f c = some (grI c) := by
  unfold railplanref1_plain.f grI
  repeat' split
  · congr 1
    rw [Bool.eq_iff_iff]; simp; omega
  · congr 1; symm; rw [decide_eq_false_iff_not]; omega
  · congr 1; symm; rw [decide_eq_false_iff_not]; omega
theorem grI_c (c : UInt8) : grI (c.toNat : Int) = grC c := by
  unfold grI grC
  rw [Bool.eq_iff_iff]; simp; omega
/-- The open word holds just the bytes from its column to here. -/
def WfC (s : ByteArray) (i : Nat) : Option (Nat × List UInt8) → Prop
  | none => True
  | some t => 1 ≤ t.1 ∧ t.1 ≤ i ∧ t.2 = (s.data.toList.drop (t.1 - 1)).take (i - (t.1 - 1))
theorem take_next (L : List UInt8) (a i : Nat) (c : UInt8) (l : List UInt8) (ha : a ≤ i) (h : L.drop i = c :: l) : (L.drop a).take (i + 1 - a) = (L.drop a).take (i - a) ++ [c] := by
  have hl : i < L.length := by
    rcases Nat.lt_or_ge i L.length with h' | h'
    · exact h'
    · rw [List.drop_eq_nil_of_le h'] at h; cases h
  have hc : L[i]? = some c := by
    have := congrArg (·[0]?) h
    simpa using this
  rw [show i + 1 - a = (i - a) + 1 by omega, List.take_add_one, List.getElem?_drop, show a + (i - a) = i by omega, hc]
  rfl
theorem ext_one (s : ByteArray) (i : Nat) (c : UInt8) (l : List UInt8) (h : s.data.toList.drop i = c :: l) : s.extract i (i + 1) = ⟨[c].toArray⟩ := by
  apply ba_ext
  rw [ba_extract, h, show i + 1 - i = 1 by omega]; rfl
theorem last_set (done : List Wd) (x y : Wd) : (done ++ [x]).set done.length y = done ++ [y] := by
  rw [List.set_append_right _ _ (Nat.le_refl _), Nat.sub_self]; rfl
theorem last_rd (done : List Wd) (x : Wd) : rd_T32 (done ++ [x]) (done.length : Int) = x := by
  unfold rd_T32
  rw [Int.toNat_natCast, List.getD_eq_getElem?_getD, List.getElem?_append_right (Nat.le_refl _), Nat.sub_self]; rfl
theorem w_line_l0 (s : ByteArray) (hs : s.size ≤ 65536) (num : Int) (m : Nat) : ∀ (i : Nat) (done : List Wd) (cur : Option (Nat × List UInt8)), i + m = s.size → WfC s i cur → done.length + cur.toList.length ≤ i →
    Ev (fun k => words_line.l0 k s num (done ++ cur.toList.map (mkW num)) cur.isSome (i : Int)) (finL num done (toks i cur (s.data.toList.drop i))) := by
  induction m with
  | zero =>
    intro i done cur hm hw hn
    rw [List.drop_eq_nil_of_le (by rw [ba_size]; omega)]
    refine Ev.step (fun k => by simp only [words_line.l0]; rw [if_neg (by omega)]) ?_
    unfold toks finL
    simp only
    by_cases h : ((done ++ cur.toList.map (mkW num)).length : Int) > 64
    · exact evp h (evs (by rw [if_pos (by omega)]))
    · exact evn h (evs (by rw [if_neg (by omega)]))
  | succ m ih =>
    intro i done cur hm hw hn
    obtain ⟨c, hd, hc⟩ := drop_cons (s := s) (i := i) (by omega)
    rw [hd]
    have e1 : wrap64 ((i : Int) + 1) = ((i + 1 : Nat) : Int) := by rw [w64 (by omega) (by omega)]; omega
    refine Ev.step (fun k => by simp only [words_line.l0]; rw [if_pos (by omega), if_pos (by omega), hc, e1, w_graphic, grI_c, Option.bind_some]) ?_
    clear e1
    unfold toks
    have hb : blC c = true → Ev (fun k => words_line.l0 k s num (done ++ cur.toList.map (mkW num)) false ((i + 1 : Nat) : Int)) (finL num done ((toks (i + 1) none (s.data.toList.drop (i + 1))).map (cur.toList ++ ·))) := by
      intro _
      rw [finL_map]
      have := ih (i + 1) (done ++ cur.toList.map (mkW num)) none (by omega) trivial (by simp; omega)
      simpa using this
    by_cases h1 : (c.toNat : Int) = 32
    · have hbl : blC c = true := by unfold blC; simp; omega
      rw [if_pos hbl]
      exact evp h1 (hb hbl)
    refine evn h1 ?_
    by_cases h2 : (c.toNat : Int) = 9
    · have hbl : blC c = true := by unfold blC; simp; omega
      rw [if_pos hbl]
      exact evp h2 (hb hbl)
    refine evn h2 ?_
    have hbl : ¬ blC c = true := by unfold blC; simp; omega
    rw [if_neg hbl]
    by_cases hg : grC c = true
    · rw [if_pos hg]
      refine evn (by rw [hg]; decide) (evp (by omega) (evp (by omega) ?_))
      cases cur with
      | none =>
        refine evn (by decide) (evp ?_ ?_)
        · simp at hn ⊢; omega
        have := ih (i + 1) done (some (i + 1, [c])) (by omega) ⟨by simp, Nat.le_refl _, by show [c] = _; rw [show i + 1 - 1 = i by omega, hd, show i + 1 - i = 1 by omega]; rfl⟩ (by simp at hn ⊢; omega)
        simp only [Int.toNat_natCast, Option.toList_none, List.map_nil, List.append_nil]
        rw [ext_one s i c _ hd]
        exact this
      | some t =>
        obtain ⟨t1, t2, t3⟩ := hw
        refine evp rfl ?_
        have hlen : (((done ++ (some t).toList.map (mkW num)).length : Nat) : Int) = (done.length : Int) + 1 := by simp
        have hxs : done ++ (some t).toList.map (mkW num) = done ++ [mkW num t] := rfl
        have hdl : done.length + 1 ≤ i := by simpa using hn
        rw [hlen, w64 (x := (done.length : Int) + 1 - 1) (by omega) (by omega), show (done.length : Int) + 1 - 1 = (done.length : Int) by omega, hxs, last_rd, Int.toNat_natCast]
        have f2e : (mkW num t).f2 = (t.1 : Int) := rfl
        have f1e : (mkW num t).f1 = num := rfl
        rw [f2e, f1e]
        rw [w64 (x := (t.1 : Int) - 1) (by omega) (by omega), show (t.1 : Int) - 1 = ((t.1 - 1 : Nat) : Int) by omega]
        refine evp (by omega) (evp (by omega) (evp (by omega) (evp (by omega) ?_)))
        simp only [Int.toNat_natCast]
        have hcore : ∀ x y : Wd, (done ++ [x]).set done.length y = done ++ [y] := last_set done
        rw [hcore]
        have hq := take_next s.data.toList (t.1 - 1) i c _ (by omega) hd
        have := ih (i + 1) done (some (t.1, t.2 ++ [c])) (by omega) ⟨t1, by show t.1 ≤ i + 1; omega, by show t.2 ++ [c] = _; rw [hq, t3]⟩ (by simp; omega)
        have he : s.extract (t.1 - 1) (i + 1) = ⟨(t.2 ++ [c]).toArray⟩ := by
          apply ba_ext
          rw [ba_extract, hq, t3]
        rw [he]
        exact this
    · rw [if_neg hg]
      have hg' : grC c = false := by simpa using hg
      exact evp hg' (evs rfl)
theorem w_line (s : ByteArray) (hs : s.size ≤ 65536) (num : Int) : Ev (fun k => words_line.f k s num) (finL num [] (toks 0 none s.data.toList)) := by
  have := w_line_l0 s hs num s.size 0 [] none (by omega) trivial (by simp)
  simpa [words_line.f] using this
/-! the reference -/
theorem r_one_end (s : ByteArray) (num : Int) (xs : List Wd) (i : Int) : Ev (fun k => railplanref1_one.j1 k s num xs i false) (if xs.length > 64 then ([], 7) else (xs, 0)) := by
  refine Ev.step (fun k => by simp only [railplanref1_one.j1]; rw [if_neg (by decide)]) ?_
  by_cases h : (xs.length : Int) > 64
  · exact evp h (evs (by rw [if_pos (by omega)]))
  · exact evn h (evs (by rw [if_neg (by omega)]))
theorem r_one_l0 (s : ByteArray) (hs : s.size ≤ 65536) (num : Int) (m : Nat) : ∀ (i : Nat) (done : List Wd) (cur : Option (Nat × List UInt8)), i + m = s.size → (cur.isSome = true ↔ 1 ≤ i ∧ grI (bt s ((i : Int) - 1)) = true) → done.length + cur.toList.length ≤ i → (∀ t, cur = some t → t.2.length ≤ i) →
    Ev (fun k => railplanref1_one.l0 k s num (done ++ cur.toList.map (mkW num)) (i : Int)) (finL num done (toks i cur ((s.data.toList.drop i).takeWhile nh))) := by
  induction m with
  | zero =>
    intro i done cur hm hw hn ht
    rw [List.drop_eq_nil_of_le (by rw [ba_size]; omega)]
    refine Ev.step (fun k => by simp only [railplanref1_one.l0]; rw [if_neg (by omega)]) ?_
    exact r_one_end _ _ _ _
  | succ m ih =>
    intro i done cur hm hw hn ht
    obtain ⟨c, hd, hc⟩ := drop_cons (s := s) (i := i) (by omega)
    rw [hd]
    have e1 : wrap64 ((i : Int) + 1) = ((i + 1 : Nat) : Int) := by rw [w64 (by omega) (by omega)]; omega
    refine Ev.step (fun k => by simp only [railplanref1_one.l0]; rw [if_pos (by omega), if_pos (by omega), hc]) ?_
    by_cases h35 : c = 35
    · subst h35
      rw [List.takeWhile_cons_of_neg nh_35]
      exact r_one_end _ _ _ _
    have h35' : (c.toNat : Int) ≠ 35 := fun h => h35 (UInt8.toNat_inj.1 (by show c.toNat = 35; omega))
    rw [List.takeWhile_cons_of_pos (nh_no h35), show ((c.toNat : Int) != 35) = true by simpa using h35']
    refine Ev.step (fun k => by simp only [railplanref1_one.j1]; rw [if_pos trivial, if_pos (by omega), if_pos (by omega), hc]) ?_
    unfold toks
    have hbt : bt s (((i + 1 : Nat) : Int) - 1) = (c.toNat : Int) := by rw [show ((i + 1 : Nat) : Int) - 1 = (i : Int) by omega, hc]
    have hb : blC c = true → Ev (fun k => railplanref1_one.j2 k s num (done ++ cur.toList.map (mkW num)) (i : Int) true) (finL num done ((toks (i + 1) none ((s.data.toList.drop (i + 1)).takeWhile nh)).map (cur.toList ++ ·))) := by
      intro hbl
      rw [finL_map]
      refine Ev.step (fun k => by simp only [railplanref1_one.j2]; rw [if_pos trivial, e1]) ?_
      have hng : ¬ (1 ≤ i + 1 ∧ grI (bt s (((i + 1 : Nat) : Int) - 1)) = true) := by
        rw [hbt, grI_c]; rintro ⟨_, h⟩
        unfold blC at hbl; unfold grC at h; simp at hbl h; omega
      have := ih (i + 1) (done ++ cur.toList.map (mkW num)) none (by omega) (by simp only [Option.isSome_none]; exact ⟨(fun h => by cases h), fun h => absurd h hng⟩) (by simp; omega) (fun t h => by cases h)
      simpa using this
    by_cases h1 : (c.toNat : Int) = 32
    · have hbl : blC c = true := by unfold blC; simp; omega
      rw [if_pos hbl]
      exact evp h1 (hb hbl)
    refine evn h1 ?_
    by_cases h2 : (c.toNat : Int) = 9
    · have hbl : blC c = true := by unfold blC; simp; omega
      rw [if_pos hbl, show ((c.toNat : Int) == 9) = true by simpa using h2]
      exact hb hbl
    have hbl : ¬ blC c = true := by unfold blC; simp; omega
    rw [if_neg hbl, show ((c.toNat : Int) == 9) = false by simpa using h2]
    refine Ev.step (fun k => by simp only [railplanref1_one.j2]; rw [if_neg (by decide), if_pos (by omega), if_pos (by omega), hc, r_plain, grI_c, Option.bind_some, e1]) ?_
    by_cases hg : grC c = true
    · rw [if_pos hg]
      refine evp hg ?_
      have hnx : (1 ≤ i + 1 ∧ grI (bt s (((i + 1 : Nat) : Int) - 1)) = true) := ⟨by omega, by rw [hbt, grI_c]; exact hg⟩
      cases cur with
      | none =>
        have hrest : Ev (fun k => if (i : Int) ≤ ((i + 1 : Nat) : Int) then (if ((i + 1 : Nat) : Int) ≤ (s.size : Int) then (if (done ++ (none : Option (Nat × List UInt8)).toList.map (mkW num)).length < 4398046511104 then railplanref1_one.l0 k s num ((done ++ (none : Option (Nat × List UInt8)).toList.map (mkW num)) ++ [(⟨s.extract (i : Int).toNat (((i + 1 : Nat) : Int)).toNat, num, ((i + 1 : Nat) : Int)⟩ : Wd)]) ((i + 1 : Nat) : Int) else none) else none) else none)
            (finL num done (toks (i + 1) (some (i + 1, [c])) ((s.data.toList.drop (i + 1)).takeWhile nh))) := by
          refine evp (by omega) (evp (by omega) (evp (by simp at hn ⊢; omega) ?_))
          have := ih (i + 1) done (some (i + 1, [c])) (by omega) ⟨fun _ => hnx, fun _ => rfl⟩ (by simp at hn ⊢; omega) (fun t h => by cases h; simp)
          simp only [Int.toNat_natCast, Option.toList_none, List.map_nil, List.append_nil]
          rw [ext_one s i c _ hd]
          exact this
        by_cases hi : (i : Int) > 0
        · refine evp hi ?_
          rw [w64 (x := (i : Int) - 1) (by omega) (by omega)]
          refine evp (by omega) (evp (by omega) ?_)
          rw [r_plain]
          refine ev1 rfl ?_
          have hno : ¬ grI (bt s ((i : Int) - 1)) = true := fun h => by have := hw.2 ⟨by omega, h⟩; cases this
          exact evn hno hrest
        · exact evn hi hrest
      | some t =>
        obtain ⟨hi, hpl⟩ := hw.1 rfl
        refine evp (by omega) ?_
        rw [w64 (x := (i : Int) - 1) (by omega) (by omega)]
        refine evp (by omega) (evp (by omega) ?_)
        rw [r_plain]
        refine ev1 rfl (evp hpl ?_)
        have hlen : (((done ++ (some t).toList.map (mkW num)).length : Nat) : Int) = (done.length : Int) + 1 := by simp
        have hxs : done ++ (some t).toList.map (mkW num) = done ++ [mkW num t] := rfl
        have hdl : done.length + 1 ≤ i := by simpa using hn
        have hts := ht t rfl
        rw [hlen, w64 (x := (done.length : Int) + 1 - 1) (by omega) (by omega), show (done.length : Int) + 1 - 1 = (done.length : Int) by omega, hxs, last_rd, Int.toNat_natCast]
        have f2e : (mkW num t).f2 = (t.1 : Int) := rfl
        have f1e : (mkW num t).f1 = num := rfl
        have f0e : (mkW num t).f0 = ⟨t.2.toArray⟩ := rfl
        rw [f2e, f1e, f0e]
        refine evp (by omega) (evp (by omega) (evp (by omega) (evp (by omega) ?_)))
        simp only [Int.toNat_natCast]
        have hcore : ∀ x y : Wd, (done ++ [x]).set done.length y = done ++ [y] := last_set done
        rw [hcore, ext_one s i c _ hd]
        have he : (⟨t.2.toArray⟩ : ByteArray) ++ ⟨[c].toArray⟩ = ⟨(t.2 ++ [c]).toArray⟩ := by
          apply ba_ext
          rw [ba_append]
        refine evp ?_ ?_
        · rw [← ba_size, ← ba_size]; simp; omega
        rw [he]
        exact ih (i + 1) done (some (t.1, t.2 ++ [c])) (by omega) ⟨fun _ => hnx, fun _ => rfl⟩ (by simp; omega) (fun u h => by cases h; simp; omega)
    · rw [if_neg hg]
      exact evn hg (evs rfl)
theorem r_one (s : ByteArray) (hs : s.size ≤ 65536) (num : Int) : Ev (fun k => railplanref1_one.f k s num) (finL num [] (toks 0 none (s.data.toList.takeWhile nh))) := by
  have := r_one_l0 s hs num s.size 0 [] none (by omega) (by simp) (by simp) (fun t h => by cases h)
  simpa [railplanref1_one.f] using this
end Go.Proofs.YtnmbljpifadipaaDoor.Q
