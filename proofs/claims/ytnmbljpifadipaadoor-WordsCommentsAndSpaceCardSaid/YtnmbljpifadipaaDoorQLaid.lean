/- What a listed variable of the library's holds when the law is called, carried from call to call; words.Number and words.Range. -/
import Derived.Test.YtnmbljpifadipaaDoorX0
import Derived.Lib.AtoiErrMem
import Derived.Lib.AppendIntMem
import Derived.BigQuiet
import Derived.Test.YtnmbljpifadipaaDoorQShelf
namespace Go.Proofs.YtnmbljpifadipaaDoor.X
open Go.RowKit Go.Proofs.YtnmbljpifadipaaDoorW Go.Proofs.YtnmbljpifadipaaDoorW.PrintWords Go.Proofs.YtnmbljpifadipaaDoorW.PrintLast Go.Proofs.YtnmbljpifadipaaDoorW.PrintMore
attribute [local go_sem] max2_int min2_int max_two min_two max_three min_three max_four min_four
set_option linter.unusedVariables false
set_option linter.unusedSimpArgs false
--BODY
theorem bytes_same {x y : ByteArray} (h : (x.toList == y.toList) = true) : x = y := by
  rw [beq_iff_eq, ByteArray.toList_eq, ByteArray.toList_eq] at h
  exact ByteArray.ext (Array.toList_inj.mp h)
def LErr (g : Nat) (w : World) : Prop := ∃ ev, w.cell? ⟨g, 0, none⟩ = some ev ∧ (ev = .nilIface ∨ ∃ te pe, ev = .iface te pe)
structure Laid (w : World) : Prop where
  len : ∃ m : Int, w.cell? ⟨0, 0, none⟩ = some (.int .i64 m)
  syn : LErr 1 w
  rng : LErr 2 w
  tab : Lib.TabIs Tryd.prog w "internal/strconv.uint64pow10" .u64 Lib.pow10Tab
theorem cell_lt' {w : World} {a : Addr} {v : Value} (h : w.cell? a = some v) : a.block < w.heap.size := by
  rcases Nat.lt_or_ge a.block w.heap.size with h' | h'
  · exact h'
  · simp [World.cell?, Array.getElem?_eq_none h'] at h
theorem LErr.below {g : Nat} {w w' : World} (h : LErr g w) (hb : Below w.heap.size w w') : LErr g w' := by
  obtain ⟨ev, h1, h2⟩ := h
  exact ⟨ev, (hb.cell (p := ⟨g, 0, none⟩) (cell_lt' h1)).trans h1, h2⟩
theorem tab_below {n : String} {g : Nat} {k : IntKind} {zs : List Int} {w w' : World} (hg : Tryd.prog.globalNamed n = some g) (h : Lib.TabIs Tryd.prog w n k zs) (hb : Below w.heap.size w w') : Lib.TabIs Tryd.prog w' n k zs := by
  unfold Lib.TabIs World.var? at h ⊢
  rw [hg] at h ⊢
  simp only [Option.bind_some] at h ⊢
  have hlt : g < w.heap.size := by
    rcases Nat.lt_or_ge g w.heap.size with h' | h'
    · exact h'
    · simp [Array.getElem?_eq_none h'] at h
  rw [hb.block g hlt]
  exact h
theorem Laid.below {w w' : World} (h : Laid w) (hb : Below w.heap.size w w') : Laid w' where
  len := by obtain ⟨m, h1⟩ := h.len; exact ⟨m, (hb.cell (p := ⟨0, 0, none⟩) (cell_lt' h1)).trans h1⟩
  syn := h.syn.below hb
  rng := h.rng.below hb
  tab := tab_below (g := 5) (by kernel_rfl) h.tab hb

/-- What strconv.Atoi answers: nothing (an error), or the number. -/
def toNum (s : ByteArray) : Option Int := match Lib.atoiAll s.data.toList with | .ok v => some v | _ => none
def words_Number.f (a0 : ByteArray) : Option (Int × Bool) :=
  if a0.size ≤ 281474976710656 then
    match toNum a0 with
    | none => some (0, false)
    | some v => if (⟨(Lib.itoa v).toArray⟩ : ByteArray) = a0 then (if v > 1099511627776 then some (0, false) else if v < -1099511627776 then some (0, false) else some (v, true)) else some (0, false)
  else none
theorem atoi_bad (s : ByteArray) (hl : s.size ≤ 281474976710656) (h : toNum s = none) (w : World) (hL : Laid w) :
    Calls Tryd.prog 31 #[.string s] w fun e w' => ∃ v N, e = .returned (.tuple #[.int .i64 v, .iface 80 (.pointer (some ⟨N, 0, none⟩))]) ∧ Below w.heap.size w w' := by
  unfold toNum at h
  cases hc : Lib.atoiAll s.data.toList
  · rw [hc] at h; cases h
  · obtain ⟨ev, h1, h2⟩ := hL.syn
    refine (Tryd.strconv_Atoi_syntax s hl hc ev w h1 h2).mono ?_
    rintro e w' ⟨N, rfl, _, _, hb⟩
    exact ⟨0, N, rfl, hb⟩
  · obtain ⟨ev, h1, h2⟩ := hL.rng
    refine (Tryd.strconv_Atoi_range s hl hc ev w h1 h2).mono ?_
    rintro e w' ⟨N, rfl, _, _, hb⟩
    exact ⟨_, N, rfl, hb⟩
theorem atoi_good (s : ByteArray) (hl : s.size ≤ 281474976710656) (v : Int) (h : toNum s = some v) (w : World) :
    Calls Tryd.prog 31 #[.string s] w fun e w' => e = .returned (.tuple #[.int .i64 v, .nilIface]) ∧ Below w.heap.size w w' := by
  unfold toNum at h
  cases hc : Lib.atoiAll s.data.toList
  rotate_left
  · rw [hc] at h; cases h
  · rw [hc] at h; cases h
  · rw [hc] at h; cases h
    refine (Tryd.strconv_Atoi_ok s (by omega) v hc w).mono ?_
    rintro e w' ⟨rfl, rfl | ⟨t, rfl⟩⟩
    · exact ⟨rfl, Below.refl _ _⟩
    · exact ⟨rfl, Lib.bytesWorld_below _ _ _⟩
theorem atoi_wf (s : ByteArray) (v : Int) (h : toNum s = some v) : -9223372036854775808 ≤ v ∧ v ≤ 9223372036854775807 := by
  unfold toNum Lib.atoiAll at h
  cases hl : s.data.toList with
  | nil => rw [hl] at h; cases h
  | cons c r =>
    rw [hl] at h
    simp only at h
    revert h
    cases Lib.parseMag (if c.toNat = 43 ∨ c.toNat = 45 then r else c :: r)
    rotate_left
    · intro h; cases h
    · intro h; cases h
    · rename_i u
      intro h
      by_cases hc : c.toNat = 45
      · by_cases hu : 9223372036854775808 < u
        · simp [hc, hu] at h
        · simp [hc, hu] at h; omega
      · by_cases hu : 9223372036854775808 ≤ u
        · simp [hc, hu] at h
        · simp [hc, hu] at h; omega
theorem itoa_c (v : Int) (h : -9223372036854775808 ≤ v ∧ v ≤ 9223372036854775807) (w : World) (hL : Laid w) :
    Calls Tryd.prog 32 #[.int .i64 v] w fun e w' => e = .returned (.string ⟨(Lib.itoa v).toArray⟩) ∧ Below w.heap.size w w' := by
  refine (Tryd.strconv_Itoa v h.1 h.2 w hL.tab).mono ?_
  rintro e w' ⟨rfl, k, os, rfl⟩
  exact ⟨rfl, Lib.below_grow _ _ (Nat.le_refl _) _ _⟩
set_option maxHeartbeats 8000000 in
set_option maxRecDepth 100000 in
theorem words_Number.calls (a0 : ByteArray) (r1 : Int) (r2 : Bool) (w : World) (hL_ : Aside0 (Laid w)) (h : words_Number.f a0 = some (r1, r2)) :
    Calls Tryd.prog 14 #[.string a0] w fun e w' => e = .returned (.tuple #[.int .i64 r1, .bool r2]) ∧ Below w.heap.size w w' := by
  unfold words_Number.f at h
  by_cases c0 : ¬ a0.size ≤ 281474976710656
  · rw [if_neg c0] at h; cases h
  replace c0 := Classical.not_not.mp c0
  rw [if_pos c0] at h
  have C0 := Aside0.mk c0
  clear c0
  cases hn : toNum a0 with
  | none =>
    rw [hn] at h
    simp only [Option.some.injEq, Prod.mk.injEq] at h
    obtain ⟨rfl, rfl⟩ := h
    have HN := Aside0.mk hn
    clear hn
    go_enter Tryd.func14, Tryd.ntmps14
    go_wp2_with fail
    (with_reducible refine (atoi_bad a0 C0.out HN.out w hL_.out).mono ?_)
    rintro e w1 ⟨v, N, rfl, hb⟩
    have HB := Aside0.mk hb
    clear hb
    go_wp2
    go_ret2
    exact ⟨rfl, HB.out⟩
  | some v =>
    rw [hn] at h
    have HN := Aside0.mk hn
    clear hn
    obtain ⟨t, ht⟩ : ∃ t : ByteArray, (⟨(Lib.itoa v).toArray⟩ : ByteArray) = t := ⟨_, rfl⟩
    have HI : Aside0 (∀ w1, Laid w1 → Calls Tryd.prog 32 #[.int .i64 v] w1 fun e w' => e = .returned (.string t) ∧ Below w1.heap.size w1 w') := ⟨fun w1 h1 => by rw [← ht]; exact itoa_c v (atoi_wf a0 v HN.out) w1 h1⟩
    simp only [ht] at h
    clear ht
    go_enter Tryd.func14, Tryd.ntmps14
    go_wp2_with fail
    (with_reducible refine (atoi_good a0 C0.out v HN.out w).mono ?_)
    rintro e w1 ⟨rfl, hb⟩
    have HB := Aside0.mk hb
    clear hb
    go_wp2_with fail
    (with_reducible refine (HI.out w1 (hL_.out.below HB.out)).mono ?_)
    rintro e w2 ⟨rfl, hb⟩
    have HB2 := Aside0.mk (HB.out.trans (hb.mono HB.out.size))
    clear hb HB
    by_cases c1 : t = a0
    · simp only [if_pos c1] at h
      have c1b : (t.toList == a0.toList) = true := by rw [c1]; exact beq_self_eq_true _
      subst c1
      by_cases c2 : v > 1099511627776
      · simp only [if_pos c2] at h
        simp only [Option.some.injEq, Prod.mk.injEq] at h
        obtain ⟨rfl, rfl⟩ := h
        have c2b : decide (1099511627776 < v) = true := decide_eq_true c2
        clear c2
        go_wp2
        go_ret2
        exact ⟨rfl, HB2.out⟩
      · simp only [if_neg c2] at h
        have c2b : decide (1099511627776 < v) = false := decide_eq_false c2
        clear c2
        by_cases c3 : v < -1099511627776
        · simp only [if_pos c3] at h
          simp only [Option.some.injEq, Prod.mk.injEq] at h
          obtain ⟨rfl, rfl⟩ := h
          have c3b : decide (v < -1099511627776) = true := decide_eq_true c3
          clear c3
          go_wp2
          go_ret2
          exact ⟨rfl, HB2.out⟩
        · simp only [if_neg c3] at h
          simp only [Option.some.injEq, Prod.mk.injEq] at h
          obtain ⟨rfl, rfl⟩ := h
          have c3b : decide (v < -1099511627776) = false := decide_eq_false c3
          clear c3
          go_wp2
          go_ret2
          exact ⟨rfl, HB2.out⟩
    · simp only [if_neg c1] at h
      simp only [Option.some.injEq, Prod.mk.injEq] at h
      obtain ⟨rfl, rfl⟩ := h
      have c1b : (t.toList == a0.toList) = false := by cases hq : (t.toList == a0.toList) with | false => rfl | true => exact absurd (bytes_same hq) c1
      clear c1
      go_wp2
      go_ret2
      exact ⟨rfl, HB2.out⟩
theorem below_drewN (B : Nat) (w : World) (n : Nat) : Below B w (w.drewN n) := ⟨rfl, rfl, rfl, Nat.le_refl _, fun _ _ => rfl⟩
/-- strings.Cut. -/
def cutS (s sep : ByteArray) : ByteArray × ByteArray × Bool := (⟨(Lib.cut s.data.toList sep.data.toList).1.toArray⟩, ⟨(Lib.cut s.data.toList sep.data.toList).2.1.toArray⟩, (Lib.cut s.data.toList sep.data.toList).2.2)
theorem cut_c (s sep : ByteArray) (hs : s.size < 4294967281) (w : World) (hL : Laid w) :
    Calls Tryd.prog 29 #[.string s, .string sep] w fun e w' => e = .returned (.tuple #[.string (cutS s sep).1, .string (cutS s sep).2.1, .bool (cutS s sep).2.2]) ∧ Below w.heap.size w w' := by
  obtain ⟨m, hm⟩ := hL.len
  refine (Tryd.strings_Cut s sep m w hs hm).mono ?_
  rintro e w' ⟨rfl, n, rfl⟩
  exact ⟨rfl, below_drewN _ _ _⟩
def words_Range.f (a0 : ByteArray) : Option (Int × Int × Bool) :=
  if a0.size < 4294967281 then
    (words_Number.f (cutS a0 ⟨#[46, 46]⟩).1).bind fun x => (words_Number.f (cutS a0 ⟨#[46, 46]⟩).2.1).bind fun y =>
      if (cutS a0 ⟨#[46, 46]⟩).2.2 = false then some (0, 0, false) else if x.2 = false then some (0, 0, false) else if y.2 = false then some (0, 0, false) else if x.1 > y.1 then some (0, 0, false) else some (x.1, y.1, true)
  else none
set_option maxHeartbeats 8000000 in
set_option maxRecDepth 100000 in
theorem words_Range.calls (a0 : ByteArray) (r1 : Int) (r2 : Int) (r3 : Bool) (w : World) (hL_ : Aside0 (Laid w)) (h : words_Range.f a0 = some (r1, r2, r3)) :
    Calls Tryd.prog 15 #[.string a0] w fun e w' => e = .returned (.tuple #[.int .i64 r1, .int .i64 r2, .bool r3]) ∧ Below w.heap.size w w' := by
  unfold words_Range.f at h
  by_cases c0 : ¬ a0.size < 4294967281
  · rw [if_neg c0] at h; cases h
  replace c0 := Classical.not_not.mp c0
  rw [if_pos c0] at h
  have HC := Aside0.mk (fun w1 (h1 : Laid w1) => cut_c a0 ⟨#[46, 46]⟩ c0 w1 h1)
  clear c0
  obtain ⟨⟨ca, cb, cf⟩, hc⟩ : ∃ c, cutS a0 ⟨#[46, 46]⟩ = c := ⟨_, rfl⟩
  simp only [hc] at h HC
  clear hc
  replace h := Option.bind_eq_some_iff.mp h
  obtain ⟨⟨x1, x2⟩, hx, h⟩ := h
  replace h := Option.bind_eq_some_iff.mp h
  obtain ⟨⟨y1, y2⟩, hy, h⟩ := h
  have HX := Aside0.mk hx
  have HY := Aside0.mk hy
  clear hx hy
  go_enter Tryd.func15, Tryd.ntmps15
  go_wp2_with fail
  (with_reducible refine (HC.out w hL_.out).mono ?_)
  rintro e w1 ⟨rfl, hb⟩
  have HB := Aside0.mk hb
  clear hb
  go_wp2_with fail
  (with_reducible refine (words_Number.calls ca x1 x2 w1 ⟨hL_.out.below HB.out⟩ HX.out).mono ?_)
  rintro e w2 ⟨rfl, hb⟩
  have HB2 := Aside0.mk (HB.out.trans (hb.mono HB.out.size))
  clear hb HB
  go_wp2_with fail
  (with_reducible refine (words_Number.calls cb y1 y2 w2 ⟨hL_.out.below HB2.out⟩ HY.out).mono ?_)
  rintro e w3 ⟨rfl, hb⟩
  have HB3 := Aside0.mk (HB2.out.trans (hb.mono HB2.out.size))
  clear hb HB2
  cases cf with
  | false =>
    simp only [if_true] at h
    simp only [Option.some.injEq, Prod.mk.injEq] at h
    obtain ⟨rfl, rfl, rfl⟩ := h
    go_wp2
    go_ret3
    exact ⟨rfl, HB3.out⟩
  | true =>
    cases x2 with
    | false =>
      simp only [if_true, Bool.true_eq_false, if_false] at h
      simp only [Option.some.injEq, Prod.mk.injEq] at h
      obtain ⟨rfl, rfl, rfl⟩ := h
      go_wp2
      go_ret3
      exact ⟨rfl, HB3.out⟩
    | true =>
      cases y2 with
      | false =>
        simp only [if_true, Bool.true_eq_false, if_false] at h
        simp only [Option.some.injEq, Prod.mk.injEq] at h
        obtain ⟨rfl, rfl, rfl⟩ := h
        go_wp2
        go_ret3
        exact ⟨rfl, HB3.out⟩
      | true =>
        simp only [Bool.true_eq_false, if_false] at h
        by_cases c1 : x1 > y1
        · simp only [if_pos c1] at h
          simp only [Option.some.injEq, Prod.mk.injEq] at h
          obtain ⟨rfl, rfl, rfl⟩ := h
          have c1b : decide (y1 < x1) = true := decide_eq_true c1
          clear c1
          go_wp2
          go_ret3
          exact ⟨rfl, HB3.out⟩
        · simp only [if_neg c1] at h
          simp only [Option.some.injEq, Prod.mk.injEq] at h
          obtain ⟨rfl, rfl, rfl⟩ := h
          have c1b : decide (y1 < x1) = false := decide_eq_false c1
          clear c1
          go_wp2
          go_ret3
          exact ⟨rfl, HB3.out⟩
end Go.Proofs.YtnmbljpifadipaaDoor.X
