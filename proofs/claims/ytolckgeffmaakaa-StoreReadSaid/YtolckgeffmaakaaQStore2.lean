/- The plain law of the store, second part: reading a record, and the scan of a file. -/
import Derived.Test.YtolckgeffmaakaaQBase
import Derived.Test.YtolckgeffmaakaaQStore1
import Derived.Test.YtolckgeffmaakaaX0
import Derived.Test.YtolckgeffmaakaaX3
import Derived.Test.YtolckgeffmaakaaX4
import Derived.Test.YtolckgeffmaakaaX5
import Derived.Test.YtolckgeffmaakaaX8
import Derived.Test.YtolckgeffmaakaaX9
namespace Go.Proofs.Ytolckgeffmaakaa.Q
open Go.RowKit Go.Proofs.YtolckgeffmaakaaW.PrintWords Go.Proofs.YtolckgeffmaakaaW.PrintLast Go.Proofs.YtolckgeffmaakaaW.PrintMore Go.Proofs.Ytolckgeffmaakaa.X

theorem bt_getD (s : ByteArray) (i : Nat) : bt s (i : Int) = ((s.data.toList.getD i 0).toNat : Int) := by
  by_cases h : i < s.size
  · exact bt_get h
  · unfold bt
    rw [dif_neg (by simpa using h)]
    have : s.data.toList.length ≤ i := by rw [ba_size]; omega
    rw [List.getD_eq_getElem?_getD, List.getElem?_eq_none this]; rfl
theorem bt_left {a b : ByteArray} {i : Nat} (h : i < a.size) : bt (a ++ b) (i : Int) = bt a (i : Int) := by
  rw [bt_getD, bt_getD, ba_append, List.getD_eq_getElem?_getD, List.getD_eq_getElem?_getD, List.getElem?_append_left (by rw [ba_size]; exact h)]
theorem bt_right {a b : ByteArray} {i : Nat} (h : a.size ≤ i) : bt (a ++ b) (i : Int) = bt b ((i - a.size : Nat) : Int) := by
  rw [bt_getD, bt_getD, ba_append, List.getD_eq_getElem?_getD, List.getD_eq_getElem?_getD, List.getElem?_append_right (by rw [ba_size]; exact h), ba_size]
theorem bt_extract {s : ByteArray} {a b i : Nat} (h : i < b - a) : bt (s.extract a b) (i : Int) = bt s ((a + i : Nat) : Int) := by
  rw [bt_getD, bt_getD, ba_extract, List.getD_eq_getElem?_getD, List.getD_eq_getElem?_getD, List.getElem?_take_of_lt h, List.getElem?_drop]
theorem bt_nums (l : List Int) (i : Nat) : bt (strOfNums l) (i : Int) = ((l.getD i 0).toNat % 256 : Nat) := by
  rw [bt_getD, strOfNums_data, List.getD_eq_getElem?_getD, List.getElem?_map, List.getD_eq_getElem?_getD]
  cases l[i]? <;> simp

def val4 (s : ByteArray) (i : Nat) : Int := bt s (i : Int) * 16777216 + bt s ((i + 1 : Nat) : Int) * 65536 + bt s ((i + 2 : Nat) : Int) * 256 + bt s ((i + 3 : Nat) : Int)
theorem val4_range (s : ByteArray) (i : Nat) : 0 ≤ val4 s i ∧ val4 s i < 4294967296 := by
  have a := bt_range s (i : Int); have b := bt_range s ((i + 1 : Nat) : Int); have c := bt_range s ((i + 2 : Nat) : Int); have d := bt_range s ((i + 3 : Nat) : Int)
  unfold val4; omega
theorem val4_four {v : Int} (h0 : 0 ≤ v) (h1 : v < 4294967296) : val4 (four v) 0 = v := by
  unfold val4 four
  rw [bt_nums, bt_nums, bt_nums, bt_nums]
  simp only [List.getD_cons_zero, Nat.zero_add, List.getD_cons_succ]
  omega
theorem val4_left {a b : ByteArray} {i : Nat} (h : i + 4 ≤ a.size) : val4 (a ++ b) i = val4 a i := by
  unfold val4; rw [bt_left (by omega), bt_left (by omega), bt_left (by omega), bt_left (by omega)]
theorem val4_right {a b : ByteArray} {i : Nat} (h : a.size ≤ i) : val4 (a ++ b) i = val4 b (i - a.size) := by
  unfold val4; rw [bt_right (by omega), bt_right (by omega), bt_right (by omega), bt_right (by omega)]
  rw [show i + 1 - a.size = i - a.size + 1 from by omega, show i + 2 - a.size = i - a.size + 2 from by omega, show i + 3 - a.size = i - a.size + 3 from by omega]

theorem get_ev (s : ByteArray) (a : Nat) (h : a + 4 ≤ s.size) : store_get.f (s.extract a s.size) = some (val4 s a) := by
  unfold store_get.f val4
  have hz : (s.extract a s.size).size = s.size - a := by rw [ByteArray.size_extract]; omega
  rw [if_pos (by omega), if_pos (by omega), if_pos (by omega), if_pos (by omega)]
  have e0 := bt_extract (s := s) (a := a) (b := s.size) (i := 0) (by omega)
  have e1 := bt_extract (s := s) (a := a) (b := s.size) (i := 1) (by omega)
  have e2 := bt_extract (s := s) (a := a) (b := s.size) (i := 2) (by omega)
  have e3 := bt_extract (s := s) (a := a) (b := s.size) (i := 3) (by omega)
  have g0 : bt (s.extract a s.size) 0 = bt s ((a : Nat) : Int) := e0
  have g1 : bt (s.extract a s.size) 1 = bt s ((a + 1 : Nat) : Int) := e1
  have g2 : bt (s.extract a s.size) 2 = bt s ((a + 2 : Nat) : Int) := e2
  have g3 : bt (s.extract a s.size) 3 = bt s ((a + 3 : Nat) : Int) := e3
  rw [or4 (bt_range _ _) (bt_range _ _) (bt_range _ _) (bt_range _ _), g0, g1, g2, g3]
theorem value_ev (s : ByteArray) (a : Nat) (h : a + 4 ≤ s.size) (hs : s.size ≤ 4611686018427387904) : railplanref41_value.f s (a : Int) = some (val4 s a) := by
  unfold railplanref41_value.f val4
  rw [w64 (x := (a : Int) + 1) (by omega) (by omega), w64 (x := (a : Int) + 2) (by omega) (by omega), w64 (x := (a : Int) + 3) (by omega) (by omega)]
  rw [if_pos (by omega), if_pos (by omega), if_pos (by omega), if_pos (by omega), if_pos (by omega), if_pos (by omega), if_pos (by omega), if_pos (by omega)]
  rw [or4 (bt_range _ _) (bt_range _ _) (bt_range _ _) (bt_range _ _)]; rfl

/-- The first record of a text. -/
def rd1 (s : ByteArray) : Option (Int × ByteArray) :=
  if s.size < 16 then none else
  if val4 s 8 > 65536 ∨ (s.size : Int) < 16 + val4 s 8 then none else
  if 1 ≤ val4 s 4 ∧ val4 s 4 ≤ 2147483647 ∧ rec (val4 s 4) (s.extract 16 (16 + val4 s 8).toNat) = s.extract 0 (16 + val4 s 8).toNat then some (val4 s 4, s.extract 16 (16 + val4 s 8).toNat) else none
def outT : Option (Int × ByteArray) → Int × ByteArray × Int × Bool
  | none => (0, ⟨#[]⟩, 0, false)
  | some (v, t) => (v, t, 16 + (t.size : Int), true)

theorem rd1_facts {s : ByteArray} {v : Int} {t : ByteArray} (h : rd1 s = some (v, t)) :
    1 ≤ v ∧ v ≤ 2147483647 ∧ t.size ≤ 65536 ∧ 16 + t.size ≤ s.size ∧ rec v t = s.extract 0 (16 + t.size) := by
  have r := val4_range s 8
  unfold rd1 at h
  split at h; · cases h
  split at h; · cases h
  split at h
  · rename_i h1 h2 h3
    simp only [Option.some.injEq, Prod.mk.injEq] at h
    obtain ⟨rfl, rfl⟩ := h
    have hz : (s.extract 16 (16 + val4 s 8).toNat).size = (val4 s 8).toNat := by rw [ByteArray.size_extract]; omega
    refine ⟨h3.1, h3.2.1, by omega, by omega, ?_⟩
    rw [hz, show 16 + (val4 s 8).toNat = (16 + val4 s 8).toNat from by omega]; exact h3.2.2
  · cases h

theorem rd1_a {s : ByteArray} (h16 : ¬ s.size < 16) (h : val4 s 8 > 65536 ∨ (s.size : Int) < 16 + val4 s 8) : rd1 s = none := by
  unfold rd1; rw [if_neg h16, if_pos h]
theorem rd1_b {s : ByteArray} (h : ¬ (1 ≤ val4 s 4 ∧ val4 s 4 ≤ 2147483647 ∧ rec (val4 s 4) (s.extract 16 (16 + val4 s 8).toNat) = s.extract 0 (16 + val4 s 8).toNat)) : rd1 s = none := by
  unfold rd1; split; · rfl
  split; · rfl
  first | rfl | rw [if_neg h]
theorem rd1_c {s : ByteArray} (h16 : ¬ s.size < 16) (h6 : ¬ (val4 s 8 > 65536 ∨ (s.size : Int) < 16 + val4 s 8)) (h : 1 ≤ val4 s 4 ∧ val4 s 4 ≤ 2147483647 ∧ rec (val4 s 4) (s.extract 16 (16 + val4 s 8).toNat) = s.extract 0 (16 + val4 s 8).toNat) :
    rd1 s = some (val4 s 4, s.extract 16 (16 + val4 s 8).toNat) := by
  unfold rd1; rw [if_neg h16, if_neg h6, if_pos h]
theorem enc_bad {n : Int} {t : ByteArray} (h : n < 1 ∨ n > 2147483647) : enc n t = (⟨#[]⟩, 4) := by unfold enc; rw [if_pos h]
theorem enc_long {n : Int} {t : ByteArray} (h : ¬ (n < 1 ∨ n > 2147483647)) (h6 : t.size > 65536) : enc n t = (⟨#[]⟩, 7) := by unfold enc; rw [if_neg h, if_pos h6]
theorem enc_good {n : Int} {t : ByteArray} (h : ¬ (n < 1 ∨ n > 2147483647)) (h6 : ¬ t.size > 65536) : enc n t = (rec n t, 0) := by unfold enc; rw [if_neg h, if_neg h6]

theorem rec_plan (v : Int) (t : ByteArray) : (rec v t).extract 0 4 = plan := by
  apply ba_ext
  rw [ba_extract]; unfold rec hd
  rw [ba_append, ba_append, ba_append, ba_append]
  simp [plan]

theorem read_ev (s : ByteArray) (hs : s.size ≤ 4611686018427387000) : Ev (fun k => store_read.f k s) (outT (rd1 s)) := by
  unfold store_read.f
  by_cases h16 : s.size < 16
  · have e : rd1 s = none := by unfold rd1; rw [if_pos h16]
    rw [e]
    refine evp (by omega) (Ev.step (f := fun _ => some (outT none)) (fun k => ?_) (evs rfl))
    simp only [store_read.j0]; rw [if_pos trivial]; rfl
  refine evn (by omega) ?_
  have hp : strings_HasPrefix.f s (⟨#[80, 76, 65, 78]⟩ : ByteArray) = some ((s.extract 0 4).toList == plan.toList) := by
    unfold strings_HasPrefix.f stringslite_HasPrefix.f
    have hz : (⟨#[80, 76, 65, 78]⟩ : ByteArray).size = 4 := rfl
    rw [if_pos (by omega), if_pos (by omega), if_pos (by omega)]
    rfl
  refine ev1 hp ?_
  have r8 := val4_range s 8
  by_cases hpl : s.extract 0 4 = plan
  · have hb : ((s.extract 0 4).toList == plan.toList) = true := by rw [hpl]; simp
    rw [hb]
    have g8 := get_ev s 8 (by omega)
    have g4 := get_ev s 4 (by omega)
    refine Ev.step (fun k => by simp only [store_read.j0]; rw [if_neg (by decide), if_pos (by omega), g8]) (ev1 (a := val4 s 8) rfl ?_)
    rw [w64 (x := (s.size : Int) - 16) (by omega) (by omega), w64 (x := 16 + val4 s 8) (by omega) (by omega)]
    by_cases hn : val4 s 8 > (s.size : Int) - 16
    · rw [rd1_a h16 (.inr (by omega))]
      exact evp hn (evs rfl)
    refine evn hn (evp (by omega) (ev1 g4 (evp (by omega) (evp (by omega) ?_))))
    have hz : (s.extract 16 (16 + val4 s 8).toNat).size = (val4 s 8).toNat := by rw [ByteArray.size_extract]; omega
    refine ev2 (encode_ev _ _ (by omega)) ?_
    by_cases hv : val4 s 4 < 1 ∨ val4 s 4 > 2147483647
    · rw [enc_bad hv, rd1_b (by omega)]
      exact evn (by simp) (evs rfl)
    by_cases h6 : val4 s 8 > 65536
    · rw [enc_long hv (by omega), rd1_a h16 (.inl h6)]
      exact evn (by simp) (evs rfl)
    rw [enc_good hv (by omega)]
    refine evp rfl (evp (by omega) ?_)
    by_cases hr : rec (val4 s 4) (s.extract 16 (16 + val4 s 8).toNat) = s.extract 0 (16 + val4 s 8).toNat
    · rw [rd1_c h16 (by omega) ⟨by omega, by omega, hr⟩]
      refine evp (by rw [hr]) (evs ?_)
      show _ = (_, _, _, _)
      rw [hz, show (((val4 s 8).toNat : Nat) : Int) = val4 s 8 from by omega]
    · rw [rd1_b (fun h => hr h.2.2)]
      exact evn (fun h => hr (ba_toList_inj.1 h)) (evs rfl)
  · have hb : ((s.extract 0 4).toList == plan.toList) = false := by
      rw [beq_eq_false_iff_ne]; exact fun h => hpl (ba_toList_inj.1 h)
    rw [hb]
    have e : rd1 s = none := by
      cases h : rd1 s with
      | none => rfl
      | some p =>
        obtain ⟨v, t⟩ := p
        obtain ⟨_, _, _, hz, hr⟩ := rd1_facts h
        exfalso; apply hpl
        rw [← rec_plan v t, hr]
        apply ba_ext
        rw [ba_extract, ba_extract, ba_extract]
        simp only [List.drop_zero, List.take_take, Nat.sub_zero]
        congr 1; omega
    rw [e]
    refine Ev.step (f := fun _ => some (outT none)) (fun k => ?_) (evs rfl)
    simp only [store_read.j0]; rw [if_pos (by decide)]; rfl

theorem first_ev (s : ByteArray) (hs : s.size ≤ 4611686018427387000) : Ev (fun k => railplanref41_first.f k s) (outT (rd1 s)) := by
  unfold railplanref41_first.f
  by_cases h16 : s.size < 16
  · have e : rd1 s = none := by unfold rd1; rw [if_pos h16]
    rw [e]; exact evp (by omega) (evs rfl)
  have r8 := val4_range s 8
  refine evn (by omega) (ev1 (value_ev s 8 (by omega) (by omega)) ?_)
  by_cases h6 : val4 s 8 > 65536
  · rw [rd1_a h16 (.inl h6)]
    refine evp h6 (Ev.step (f := fun _ => some (outT none)) (fun k => ?_) (evs rfl))
    simp only [railplanref41_first.j0]; rw [if_pos trivial]; rfl
  refine evn h6 ?_
  rw [w64 (x := 16 + val4 s 8) (by omega) (by omega)]
  by_cases hn : (s.size : Int) < 16 + val4 s 8
  · rw [rd1_a h16 (.inr hn)]
    refine Ev.step (f := fun _ => some (outT none)) (fun k => ?_) (evs rfl)
    simp only [railplanref41_first.j0]; rw [if_pos (by simpa using hn)]; rfl
  have g4 := value_ev s 4 (by omega) (by omega)
  refine Ev.step (fun k => by simp only [railplanref41_first.j0]; rw [if_neg (by simpa using hn)]) ?_
  rw [w64 (x := 16 + val4 s 8) (by omega) (by omega)]
  refine ev1 g4 (evp (by omega) (evp (by omega) ?_))
  have hz : (s.extract 16 (16 + val4 s 8).toNat).size = (val4 s 8).toNat := by rw [ByteArray.size_extract]; omega
  refine ev2 (refEncode_ev _ _ (by omega)) ?_
  by_cases hv : val4 s 4 < 1 ∨ val4 s 4 > 2147483647
  · rw [enc_bad hv, rd1_b (by omega)]
    exact evn (by simp) (evs rfl)
  rw [enc_good hv (by omega)]
  refine evp rfl (evp (by omega) ?_)
  by_cases hr : rec (val4 s 4) (s.extract 16 (16 + val4 s 8).toNat) = s.extract 0 (16 + val4 s 8).toNat
  · rw [rd1_c h16 (by omega) ⟨by omega, by omega, hr⟩]
    refine evp (by rw [hr]) (evs ?_)
    show _ = (_, _, _, _)
    rw [hz, show (((val4 s 8).toNat : Nat) : Int) = val4 s 8 from by omega]
  · rw [rd1_b (fun h => hr h.2.2)]
    exact evn (fun h => hr (ba_toList_inj.1 h)) (evs rfl)

/-! the scan -/
def lastN (l : List S23) : Int := (rd_T23 l ((l.length : Int) - 1)).f0
/-- May a version stand behind these? -/
def okN (l : List S23) (v : Int) : Bool := decide (l.length = 0 ∨ lastN l < v)
def scanN : Nat → ByteArray → List S23 → Nat → List S23 × Int
  | 0, _, l, p => (l, (p : Int))
  | d + 1, s, l, p => match rd1 (s.extract p s.size) with
    | none => (l, (p : Int))
    | some (v, t) => if okN l v = true then scanN d s (l ++ [⟨v, t⟩]) (p + (16 + t.size)) else (l, (p : Int))
def scan (s : ByteArray) : List S23 × Int := scanN 64 s [] 0

theorem rest_size (s : ByteArray) (p : Nat) : (s.extract p s.size).size = s.size - p := by rw [ByteArray.size_extract]; omega

theorem scan_l0 (s : ByteArray) (hs : s.size ≤ 4611686018427387000) (d : Nat) : ∀ (l : List S23) (p : Nat), l.length + d = 64 → p ≤ s.size →
    Ev (fun k => store_Scan.l0 k s l (p : Int)) (scanN d s l p) := by
  induction d with
  | zero =>
    intro l p hl hp
    refine Ev.step (f := fun _ => some (l, (p : Int))) (fun k => ?_) (evs rfl)
    simp only [store_Scan.l0]; rw [if_neg (by omega)]
  | succ d ih =>
    intro l p hl hp
    refine Ev.step (fun k => by simp only [store_Scan.l0]; rw [if_pos (by omega), if_pos (by omega), if_pos (by omega)]) ?_
    rw [Int.toNat_natCast, w64 (x := (l.length : Int) - 1) (by omega) (by omega)]
    refine ev2 (read_ev _ (by rw [rest_size]; omega)) ?_
    unfold scanN
    cases h : rd1 (s.extract p s.size) with
    | none => exact evn (by simp [outT]) (evs rfl)
    | some q =>
      obtain ⟨v, t⟩ := q
      obtain ⟨_, _, _, hz, _⟩ := rd1_facts h
      rw [rest_size] at hz
      refine evp rfl ?_
      have hw : wrap64 ((p : Int) + (outT (some (v, t))).2.2.1) = ((p + (16 + t.size) : Nat) : Int) := by
        show wrap64 ((p : Int) + (16 + (t.size : Int))) = _
        rw [w64 (by omega) (by omega)]; omega
      have hn := ih (l ++ [⟨v, t⟩]) (p + (16 + t.size)) (by simp; omega) (by omega)
      by_cases h0 : l.length = 0
      · have ho : okN l v = true := by simp [okN, h0]
        simp only [ho, if_true]
        refine evn (by omega) (evp (by omega) ?_)
        rw [hw]; exact hn
      · refine evp (by omega) (evp (by omega) (evp (by omega) ?_))
        by_cases hv : v ≤ lastN l
        · have ho : okN l v = false := by simp [okN, h0]; omega
          simp only [ho]
          exact evp hv (evs rfl)
        · have ho : okN l v = true := by simp [okN, h0]; omega
          simp only [ho, if_true]
          refine evn hv (evp (by omega) ?_)
          rw [hw]; exact hn
theorem scan_ev (s : ByteArray) (hs : s.size ≤ 4611686018427387000) : Ev (fun k => store_Scan.f k s) (scan s) := by
  unfold store_Scan.f; exact scan_l0 s hs 64 [] 0 (by simp) (by omega)

theorem refScan_l0 (s : ByteArray) (hs : s.size ≤ 4611686018427387000) (d : Nat) : ∀ (l : List S23) (p : Nat), l.length + d = 64 → p ≤ s.size →
    Ev (fun k => railplanref41_Scan.l0 k s l (p : Int)) (scanN d s l p) := by
  induction d with
  | zero =>
    intro l p hl hp
    refine Ev.step (f := fun _ => some (l, (p : Int))) (fun k => ?_) (evs rfl)
    simp only [railplanref41_Scan.l0]; rw [if_neg (by omega)]
  | succ d ih =>
    intro l p hl hp
    refine Ev.step (fun k => by simp only [railplanref41_Scan.l0]; rw [if_pos (by omega), if_pos (by omega), if_pos (by omega)]) ?_
    rw [Int.toNat_natCast, w64 (x := (l.length : Int) - 1) (by omega) (by omega)]
    refine ev2 (first_ev _ (by rw [rest_size]; omega)) ?_
    unfold scanN
    cases h : rd1 (s.extract p s.size) with
    | none => exact evn (by simp [outT]) (evs rfl)
    | some q =>
      obtain ⟨v, t⟩ := q
      obtain ⟨_, _, _, hz, _⟩ := rd1_facts h
      rw [rest_size] at hz
      refine evp rfl ?_
      have hw : wrap64 ((p : Int) + (outT (some (v, t))).2.2.1) = ((p + (16 + t.size) : Nat) : Int) := by
        show wrap64 ((p : Int) + (16 + (t.size : Int))) = _
        rw [w64 (by omega) (by omega)]; omega
      have hn := ih (l ++ [⟨v, t⟩]) (p + (16 + t.size)) (by simp; omega) (by omega)
      by_cases h0 : l.length = 0
      · have ho : okN l v = true := by simp [okN, h0]
        simp only [ho, if_true]
        refine evn (by omega) (evp (by omega) ?_)
        rw [hw]; exact hn
      · refine evp (by omega) (evp (by omega) (evp (by omega) ?_))
        by_cases hv : v ≤ lastN l
        · have ho : okN l v = false := by simp [okN, h0]; omega
          simp only [ho]
          exact evp hv (evs rfl)
        · have ho : okN l v = true := by simp [okN, h0]; omega
          simp only [ho, if_true]
          refine evn hv (evp (by omega) ?_)
          rw [hw]; exact hn
theorem refScan_ev (s : ByteArray) (hs : s.size ≤ 4611686018427387000) : Ev (fun k => railplanref41_Scan.f k s) (scan s) := by
  unfold railplanref41_Scan.f; exact refScan_l0 s hs 64 [] 0 (by simp) (by omega)
theorem scanN_le (s : ByteArray) (d : Nat) : ∀ (l : List S23) (p : Nat), p ≤ s.size → 0 ≤ (scanN d s l p).2 ∧ (scanN d s l p).2 ≤ s.size := by
  induction d with
  | zero => intro l p hp; exact ⟨by show 0 ≤ (p : Int); omega, by show (p : Int) ≤ _; omega⟩
  | succ d ih =>
    intro l p hp; unfold scanN
    cases h : rd1 (s.extract p s.size) with
    | none => exact ⟨by show 0 ≤ (p : Int); omega, by show (p : Int) ≤ _; omega⟩
    | some q =>
      obtain ⟨v, t⟩ := q
      obtain ⟨_, _, _, hz, _⟩ := rd1_facts h
      rw [rest_size] at hz
      simp only []
      split
      · exact ih _ _ (by omega)
      · exact ⟨by show 0 ≤ (p : Int); omega, by show (p : Int) ≤ _; omega⟩
theorem scan_le (s : ByteArray) : 0 ≤ (scan s).2 ∧ (scan s).2 ≤ s.size := scanN_le s 64 [] 0 (by omega)
end Go.Proofs.Ytolckgeffmaakaa.Q
