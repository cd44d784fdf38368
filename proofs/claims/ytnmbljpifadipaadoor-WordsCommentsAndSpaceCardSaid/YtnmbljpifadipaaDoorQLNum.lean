/- Number of the program and of the reference: both tell the numerals of the numbers up to the limit. -/
import Derived.Test.YtnmbljpifadipaaDoorQBase
import Derived.Test.YtnmbljpifadipaaDoorQLNumA
import Derived.Test.YtnmbljpifadipaaDoorQLNames
import Derived.Test.YtnmbljpifadipaaDoorX18
import Derived.Test.YtnmbljpifadipaaDoorQLaid
namespace Go.Proofs.YtnmbljpifadipaaDoor.Q
open Go Go.RowKit Go.Proofs.YtnmbljpifadipaaDoorW.PrintWords Go.Proofs.YtnmbljpifadipaaDoorW.PrintLast Go.Proofs.YtnmbljpifadipaaDoorW.PrintMore Go.Proofs.YtnmbljpifadipaaDoor.X Go.Proofs.YtnmbljpifadipaaDoor.Num
set_option linter.unusedVariables false
set_option linter.unusedSimpArgs false
/-- What Number answers of the bytes L. -/
def numS (L : List UInt8) : Int × Bool := match Lib.atoiAll L with
  | .ok v => if Lib.itoa v = L then (if v > 1099511627776 then (0, false) else if v < -1099511627776 then (0, false) else (v, true)) else (0, false)
  | _ => (0, false)
theorem numS_itoa {v : Int} (h0 : -1099511627776 ≤ v) (h1 : v ≤ 1099511627776) : numS (Lib.itoa v) = (v, true) := by
  unfold numS
  rw [atoi_itoa v (by omega) (by omega)]
  simp only
  rw [if_pos trivial, if_neg (by omega), if_neg (by omega)]
theorem numS_big {v : Int} (hv : -9223372036854775808 ≤ v ∧ v ≤ 9223372036854775807) (h : v < -1099511627776 ∨ 1099511627776 < v) : numS (Lib.itoa v) = (0, false) := by
  unfold numS
  rw [atoi_itoa v hv.1 hv.2]
  simp only
  rw [if_pos trivial]
  rcases h with h | h
  · rw [if_neg (by omega), if_pos h]
  · rw [if_pos h]
theorem numS_not {L : List UInt8} (h : ∀ v : Int, -1099511627776 ≤ v → v ≤ 1099511627776 → Lib.itoa v ≠ L) : numS L = (0, false) := by
  unfold numS
  split
  · rename_i v hv
    by_cases e : Lib.itoa v = L
    · rw [if_pos e]
      by_cases h1 : v > 1099511627776
      · rw [if_pos h1]
      · rw [if_neg h1]
        by_cases h2 : v < -1099511627776
        · rw [if_pos h2]
        · exact absurd e (h v (by omega) (by omega))
    · rw [if_neg e]
  · rfl
theorem numS_cases (L : List UInt8) : numS L = (0, false) ∨ ∃ v : Int, -1099511627776 ≤ v ∧ v ≤ 1099511627776 ∧ L = Lib.itoa v ∧ numS L = (v, true) := by
  by_cases h : ∃ v : Int, -1099511627776 ≤ v ∧ v ≤ 1099511627776 ∧ Lib.itoa v = L
  · obtain ⟨v, h0, h1, rfl⟩ := h
    exact .inr ⟨v, h0, h1, rfl, numS_itoa h0 h1⟩
  · exact .inl (numS_not fun v h0 h1 e => h ⟨v, h0, h1, e⟩)
theorem w_number (s : ByteArray) (hs : s.size ≤ 281474976710656) : words_Number.f s = some (numS s.data.toList) := by
  unfold words_Number.f toNum numS
  rw [if_pos hs]
  have hi : ∀ v : Int, ((⟨(Lib.itoa v).toArray⟩ : ByteArray) = s) ↔ (Lib.itoa v = s.data.toList) := by
    intro v
    constructor
    · intro h; rw [← h]
    · intro h; exact ba_ext (by simpa using h)
  cases hc : Lib.atoiAll s.data.toList with
  | ok v =>
    simp only
    by_cases h : Lib.itoa v = s.data.toList
    · rw [if_pos ((hi v).2 h), if_pos h]
      split
      · rfl
      · split <;> rfl
    · rw [if_neg (fun e => h ((hi v).1 e)), if_neg h]
  | _ => rfl
/-! the reference -/
def parseD (n : Nat) : List UInt8 → Option Nat
  | [] => some n
  | c :: l => if isDg c = true then parseD (n * 10 + (c.toNat - 48)) l else none
theorem parseD_ok : ∀ (l : List UInt8) (n : Nat), (∀ c ∈ l, isDg c = true) → parseD n l = some (decVal n l)
  | [], _, _ => rfl
  | c :: l, n, h => by
    unfold parseD
    rw [if_pos (h c (List.mem_cons_self ..))]
    exact parseD_ok l _ fun d hd => h d (List.mem_cons_of_mem _ hd)
theorem parseD_some : ∀ (l : List UInt8) (n v : Nat), parseD n l = some v → (∀ c ∈ l, isDg c = true) ∧ v = decVal n l
  | [], n, v, h => ⟨(fun c hc => by cases hc), (Option.some.inj h).symm⟩
  | c :: l, n, v, h => by
    unfold parseD at h
    by_cases hc : isDg c = true
    · rw [if_pos hc] at h
      obtain ⟨h1, h2⟩ := parseD_some l _ v h
      refine ⟨fun d hd => ?_, h2⟩
      rcases List.mem_cons.1 hd with rfl | hd
      · exact hc
      · exact h1 d hd
    · rw [if_neg hc] at h; cases h
def numFin (sg : Int) : Option Nat → Int × Bool
  | none => (0, false)
  | some v => if v > 1099511627776 then (0, false) else (sg * v, true)
def refT (t : List UInt8) (neg : Bool) : Int × Bool :=
  if t.length < 1 then (0, false) else if t.length > 13 then (0, false)
  else if t.head? = some 48 ∧ (t.length > 1 ∨ neg = true) then (0, false)
  else numFin (if neg then -1 else 1) (parseD 0 t)
def refNum : List UInt8 → Int × Bool
  | [] => (0, false)
  | c :: t => if c = 45 then refT t true else refT (c :: t) false
theorem isD_dg (c : UInt8) : isD (c.toNat : Int) = isDg c := by
  unfold isD isDg
  rw [Bool.eq_iff_iff]; simp; omega
theorem drop_cons {s : ByteArray} {i : Nat} (h : i < s.size) : ∃ c, s.data.toList.drop i = c :: s.data.toList.drop (i + 1) ∧ bt s (i : Int) = (c.toNat : Int) := by
  have hl : i < s.data.toList.length := by rw [ba_size]; exact h
  refine ⟨s.data.toList[i], List.drop_eq_getElem_cons hl, ?_⟩
  rw [bt_get h, List.getD_eq_getElem?_getD, List.getElem?_eq_getElem hl]; rfl
theorem r_num_l0 (s : ByteArray) (hs : s.size ≤ 13) (sg : Int) (hsg : sg = 1 ∨ sg = -1) (m : Nat) : ∀ (i n : Nat), i + m = s.size → n < 10 ^ i → Ev (fun k => railplanref1_Number.l0 k s sg (n : Int) (i : Int)) (numFin sg (parseD n (s.data.toList.drop i))) := by
  induction m with
  | zero =>
    intro i n hm hn
    have hb : (10 : Nat) ^ i ≤ 10 ^ 13 := Nat.pow_le_pow_right (by decide) (by omega)
    rw [List.drop_eq_nil_of_le (by rw [ba_size]; omega)]
    refine Ev.step (fun k => by simp only [railplanref1_Number.l0]; rw [if_neg (by omega)]) ?_
    unfold parseD numFin
    by_cases h : (n : Int) > 1099511627776
    · exact evp h (evs (by simp only; rw [if_pos (by omega)]))
    · exact evn h (evs (by simp only; rw [if_neg (by omega), w64 (by rcases hsg with rfl | rfl <;> omega) (by rcases hsg with rfl | rfl <;> omega)]))
  | succ m ih =>
    intro i n hm hn
    have hb : (10 : Nat) ^ i ≤ 10 ^ 12 := Nat.pow_le_pow_right (by decide) (by omega)
    obtain ⟨c, hd, hc⟩ := drop_cons (s := s) (i := i) (by omega)
    rw [hd]
    refine Ev.step (fun k => by simp only [railplanref1_Number.l0]; rw [if_pos (by omega), if_pos (by omega), r_digit, hc, isD_dg, Option.bind_some]) ?_
    unfold parseD
    by_cases h : isDg c = true
    · rw [if_pos h]
      have hcc := isDg_iff.1 h
      refine evp h ?_
      have e1 : wrap64 (wrap64 (10 * (n : Int)) + ((c.toNat : Int) - 48) % 256) = ((n * 10 + (c.toNat - 48) : Nat) : Int) := by
        rw [w64 (x := 10 * (n : Int)) (by omega) (by omega), w64 (by omega) (by omega)]; omega
      have e2 : wrap64 ((i : Int) + 1) = ((i + 1 : Nat) : Int) := by rw [w64 (by omega) (by omega)]; omega
      rw [e1, e2]
      exact ih (i + 1) _ (by omega) (by rw [Nat.pow_succ]; omega)
    · rw [if_neg h]
      exact evn h (evs rfl)
theorem r_num_j2 (s : ByteArray) (hs : s.size ≤ 13) (sg : Int) (hsg : sg = 1 ∨ sg = -1) : Ev (fun k => railplanref1_Number.j2 k s sg false) (numFin sg (parseD 0 s.data.toList)) := by
  refine Ev.step (fun k => by simp only [railplanref1_Number.j2]; rw [if_neg (by decide)]) ?_
  have := r_num_l0 s hs sg hsg s.size 0 0 (by omega) (by decide)
  simpa using this
theorem r_num_bad (s : ByteArray) (sg : Int) : Ev (fun k => railplanref1_Number.j2 k s sg true) (0, false) :=
  Ev.step (fun k => by simp only [railplanref1_Number.j2]; rfl) (evs rfl)
theorem bt_zero {s : ByteArray} {c : UInt8} {t : List UInt8} (h : s.data.toList = c :: t) : bt s 0 = (c.toNat : Int) := by
  have hp : 0 < s.size := by rw [← ba_size, h]; simp
  have := bt_get (s := s) (i := 0) hp
  rw [h] at this
  simpa using this
theorem r_num_j1 (s : ByteArray) (neg : Bool) : Ev (fun k => railplanref1_Number.j1 k s (if neg then -1 else 1)) (refT s.data.toList neg) := by
  have hsz := ba_size s
  refine Ev.step (fun k => by simp only [railplanref1_Number.j1]; rfl) ?_
  unfold refT
  rw [hsz]
  by_cases h1 : (s.size : Int) < 1
  · exact evp h1 (ev_eq (r_num_bad _ _) (by rw [if_pos (by omega)]))
  refine evn h1 ?_
  rw [if_neg (show ¬ s.size < 1 by omega)]
  by_cases h2 : (s.size : Int) > 13
  · exact evp h2 (ev_eq (r_num_bad _ _) (by rw [if_pos (by omega)]))
  refine evn h2 (evp (by omega) ?_)
  rw [if_neg (show ¬ s.size > 13 by omega)]
  obtain ⟨c, t, hct⟩ : ∃ c t, s.data.toList = c :: t := by
    cases hq : s.data.toList with
    | nil => rw [hq] at hsz; simp at hsz; omega
    | cons c t => exact ⟨c, t, rfl⟩
  rw [bt_zero hct, hct, List.head?_cons]
  have hj2 := r_num_j2 s (by omega) (if neg then -1 else 1) (by cases neg <;> simp)
  rw [hct] at hj2
  by_cases h3 : (c.toNat : Int) = 48
  · have hc : c = 48 := UInt8.toNat_inj.1 (by show c.toNat = 48; omega)
    refine evp h3 ?_
    by_cases h4 : (s.size : Int) > 1
    · exact evp h4 (ev_eq (r_num_bad _ _) (by rw [if_pos ⟨by rw [hc], .inl (by omega)⟩]))
    · refine evn h4 ?_
      cases neg with
      | true => exact ev_eq (r_num_bad _ _) (by rw [if_pos ⟨by rw [hc], .inr rfl⟩])
      | false => exact ev_eq hj2 (by
          have hn : ¬ (some c = some (48 : UInt8) ∧ (s.size > 1 ∨ false = true)) := by
            rintro ⟨_, h | h⟩
            · omega
            · cases h
          rw [if_neg hn])
  · refine evn h3 (ev_eq hj2 ?_)
    have hn : ¬ (some c = some (48 : UInt8) ∧ (s.size > 1 ∨ neg = true)) := by
      rintro ⟨h, _⟩
      exact h3 (by rw [Option.some.inj h]; rfl)
    rw [if_neg hn]
theorem r_number0 (s : ByteArray) : Ev (fun k => railplanref1_Number.f k s) (refNum s.data.toList) := by
  have hsz := ba_size s
  unfold railplanref1_Number.f
  cases hq : s.data.toList with
  | nil =>
    rw [hq] at hsz
    refine evn (by simp at hsz; omega) (Ev.step (fun k => by simp only [railplanref1_Number.j0]; rw [if_neg (by decide)]) ?_)
    have := r_num_j1 s false
    rw [hq] at this
    exact this
  | cons c t =>
    rw [hq, List.length_cons] at hsz
    refine evp (by omega) (evp (by omega) ?_)
    rw [bt_zero hq]
    refine Ev.step (fun k => by simp only [railplanref1_Number.j0]; rfl) ?_
    unfold refNum
    by_cases hc : c = 45
    · subst hc
      refine evp rfl (evp (by omega) ?_)
      show Ev _ (refT t true)
      have := r_num_j1 (s.extract 1 s.size) true
      rw [ba_extract, hq, List.drop_one, List.tail_cons, List.take_of_length_le (by omega)] at this
      exact this
    · show Ev _ (if c = 45 then refT t true else refT (c :: t) false)
      rw [if_neg hc]
      refine evn (by simp; intro h; exact hc (UInt8.toNat_inj.1 (by show c.toNat = 45; omega))) ?_
      have := r_num_j1 s false
      rw [hq] at this
      exact this
theorem len13 {v : Nat} (h : v ≤ 1099511627776) : (Lib.decDigits v).length ≤ 13 := dec_len 12 v (by omega)
theorem refNum_itoa {v : Int} (h0 : -1099511627776 ≤ v) (h1 : v ≤ 1099511627776) : refNum (Lib.itoa v) = (v, true) := by
  unfold Lib.itoa
  by_cases hn : v < 0
  · rw [if_pos hn]
    obtain ⟨c, l, hc, hb⟩ := dec_head v.natAbs (by omega)
    show refT (Lib.decDigits v.natAbs) true = _
    unfold refT
    have h13 := len13 (v := v.natAbs) (by omega)
    have hp := parseD_ok _ 0 (dec_digits v.natAbs)
    rw [dec_val] at hp
    rw [if_neg (by rw [hc]; simp), if_neg (by omega), if_neg (by rw [hc]; rintro ⟨h, _⟩; simp at h; subst h; exact absurd hb (by decide)), hp]
    unfold numFin
    simp only [if_true]
    rw [if_neg (by omega)]
    congr 1; omega
  · rw [if_neg hn]
    have h13 := len13 (v := v.toNat) (by omega)
    have hp := parseD_ok _ 0 (dec_digits v.toNat)
    rw [dec_val] at hp
    have hne := dec_ne v.toNat
    have hd := dec_digits v.toNat
    have hz : (Lib.decDigits v.toNat).head? = some 48 → (Lib.decDigits v.toNat).length ≤ 1 := by
      intro h
      by_cases h0 : v.toNat = 0
      · rw [h0, dec_zero]; simp
      · obtain ⟨c, l, hc, hb⟩ := dec_head v.toNat h0
        rw [hc] at h; simp at h; subst h; exact absurd hb (by decide)
    cases hq : Lib.decDigits v.toNat with
    | nil => exact absurd hq hne
    | cons c l =>
      rw [hq] at h13 hp hd hz
      have h48 := isDg_iff.1 (hd c (List.mem_cons_self ..))
      show (if c = 45 then _ else refT (c :: l) false) = _
      rw [if_neg (by rintro rfl; exact absurd h48 (by decide))]
      unfold refT
      rw [if_neg (by simp), if_neg (by omega), if_neg (by rintro ⟨h, h' | h'⟩; have := hz h; omega; cases h'), hp]
      unfold numFin
      simp only [Bool.false_eq_true, if_false]
      rw [if_neg (by omega)]
      congr 1; omega
theorem refT_cases (t : List UInt8) (neg : Bool) : refT t neg = (0, false) ∨ ∃ u : Nat, u ≤ 1099511627776 ∧ t = Lib.decDigits u ∧ (neg = true → u ≠ 0) := by
  unfold refT
  by_cases h1 : t.length < 1
  · exact .inl (if_pos h1)
  rw [if_neg h1]
  by_cases h2 : t.length > 13
  · exact .inl (if_pos h2)
  rw [if_neg h2]
  by_cases h3 : t.head? = some 48 ∧ (t.length > 1 ∨ neg = true)
  · exact .inl (if_pos h3)
  rw [if_neg h3]
  cases hp : parseD 0 t with
  | none => exact .inl rfl
  | some u =>
    unfold numFin
    simp only
    by_cases h4 : u > 1099511627776
    · exact .inl (if_pos h4)
    · obtain ⟨hd, hu⟩ := parseD_some t 0 u hp
      obtain ⟨c, l, hcl⟩ : ∃ c l, t = c :: l := by cases t with | nil => simp at h1 | cons c l => exact ⟨c, l, rfl⟩
      have hcd := isDg_iff.1 (hd c (by rw [hcl]; exact List.mem_cons_self ..))
      have hz : t.length = 1 ∨ ∃ c r, t = c :: r ∧ 49 ≤ c.toNat := by
        by_cases h48 : c.toNat = 48
        · left
          have hc : c = 48 := UInt8.toNat_inj.1 (by show c.toNat = 48; omega)
          rcases Nat.lt_or_ge 1 t.length with hl | hl
          · exact absurd ⟨by rw [hcl, hc]; rfl, .inl hl⟩ h3
          · omega
        · exact .inr ⟨c, l, hcl, by omega⟩
      refine .inr ⟨u, by omega, ?_, ?_⟩
      · rw [hu]; exact (dec_of t hd (by rw [hcl]; simp) hz).symm
      · intro hn h0
        have ht : t = Lib.decDigits u := by rw [hu]; exact (dec_of t hd (by rw [hcl]; simp) hz).symm
        rw [h0, dec_zero] at ht
        exact h3 ⟨by rw [ht]; rfl, .inr hn⟩
theorem refNum_eq (L : List UInt8) : refNum L = numS L := by
  rcases numS_cases L with h | ⟨v, h0, h1, rfl, h⟩
  · rw [h]
    cases L with
    | nil => rfl
    | cons c t =>
      show (if c = 45 then refT t true else refT (c :: t) false) = _
      by_cases hc : c = 45
      · rw [if_pos hc]
        rcases refT_cases t true with h' | ⟨u, hu, ht, hn⟩
        · exact h'
        · exfalso
          have := hn rfl
          have hi : Lib.itoa (-(u : Int)) = c :: t := by
            unfold Lib.itoa; rw [if_pos (by omega), hc, ht]; congr 2; omega
          rw [← hi, numS_itoa (by omega) (by omega)] at h
          simp at h
      · rw [if_neg hc]
        rcases refT_cases (c :: t) false with h' | ⟨u, hu, ht, _⟩
        · exact h'
        · exfalso
          have hi : Lib.itoa (u : Int) = c :: t := by
            unfold Lib.itoa; rw [if_neg (by omega), ht]; congr 1
          rw [← hi, numS_itoa (by omega) (by omega)] at h
          simp at h
  · rw [h, refNum_itoa h0 h1]
theorem r_number (s : ByteArray) : Ev (fun k => railplanref1_Number.f k s) (numS s.data.toList) := ev_eq (r_number0 s) (refNum_eq _)
end Go.Proofs.YtnmbljpifadipaaDoor.Q
