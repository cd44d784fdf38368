/- Written by a program of this claim. Proved: each Go function named below, called with any arguments at which its Lean function answers, returns that answer; or, of a law, its given statement. -/
import Derived.Test.YtnmbljpifadipaaDoorX0
import Derived.Test.YtnmbljpifadipaaDoorX3
import Derived.Test.YtnmbljpifadipaaDoorQLines
import Derived.Test.YtnmbljpifadipaaDoorQRangeStr
namespace Go.Proofs.YtnmbljpifadipaaDoor.X
open Go.RowKit Go.Proofs.YtnmbljpifadipaaDoorW Go.Proofs.YtnmbljpifadipaaDoorW.PrintWords Go.Proofs.YtnmbljpifadipaaDoorW.PrintLast Go.Proofs.YtnmbljpifadipaaDoorW.PrintMore
attribute [local go_sem] max2_int min2_int max_two min_two max_three min_three max_four min_four   -- for this text's walks alone
set_option linter.unusedVariables false
set_option linter.unusedSimpArgs false

/-! ### railplanlaw3_WordsCommentsAndSpace: function 8 -/
mutual
def railplanlaw3_WordsCommentsAndSpace.j1 : Nat → ByteArray → ByteArray → Option (Bool)
  | 0, _, _ => none
  | k + 1, x7, x8 => (words_Lines.f k x7).bind fun bt213 => ((words_Lines.f k x8).bind fun bt218 => ((railplanlaw3_awake.f k).bind fun t223 => (if t223 = true then (if bt213.2.2 = 0 then (if bt218.2.2 = 0 then (railplanlaw3_WordsCommentsAndSpace.j2 k bt213.1 bt218.1 ((bt213.1.length : Int) != (bt218.1.length : Int))) else (railplanlaw3_WordsCommentsAndSpace.j2 k bt213.1 bt218.1 true)) else (railplanlaw3_WordsCommentsAndSpace.j2 k bt213.1 bt218.1 true)) else (railplanlaw3_WordsCommentsAndSpace.j2 k bt213.1 bt218.1 true))))
def railplanlaw3_WordsCommentsAndSpace.j2 : Nat → List (List (S32)) → List (List (S32)) → Bool → Option (Bool)
  | 0, _, _, _ => none
  | k + 1, x11, x14, x96 => if x96 = true then (some false) else (railplanlaw3_WordsCommentsAndSpace.l1 k x11 x14 (x11.length : Int) 0)
def railplanlaw3_WordsCommentsAndSpace.l1 : Nat → List (List (S32)) → List (List (S32)) → Int → Int → Option (Bool)
  | 0, _, _, _, _ => none
  | k + 1, x11, x14, x98, x99 => if x99 < x98 then (if 0 ≤ x99 then (if x99 < (x11.length : Int) then (if ((rd_L3 x11 x99).length : Int) = 1 then (if x99 < (x14.length : Int) then (if ((rd_L3 x14 x99).length : Int) = 1 then (if 0 < ((rd_L3 x11 x99).length : Int) then (if 0 < ((rd_L3 x14 x99).length : Int) then (if ((rd_T32 (rd_L3 x11 x99) 0).f0).toList = ((rd_T32 (rd_L3 x14 x99) 0).f0).toList then (if ((rd_T32 (rd_L3 x14 x99) 0).f1) = (wrap64 ((wrap64 (2 * x99)) + 1)) then (if ((rd_T32 (rd_L3 x14 x99) 0).f2) = 3 then (railplanlaw3_WordsCommentsAndSpace.l1 k x11 x14 x98 (wrap64 (x99 + 1))) else (some false)) else (some false)) else (some false)) else (none)) else (none)) else (some false)) else (none)) else (some false)) else (none)) else (none)) else (some true)
def railplanlaw3_WordsCommentsAndSpace.l0 : Nat → List Int → ByteArray → ByteArray → ByteArray → Int → Option (Bool)
  | 0, _, _, _, _, _ => none
  | k + 1, x0, x5, x7, x8, x9 => if x9 < (x0.length : Int) then (if x9 < 30 then ((some (([(⟨#[97]⟩ : ByteArray), (⟨#[49, 50]⟩ : ByteArray), (⟨#[117, 112]⟩ : ByteArray), (⟨#[45]⟩ : ByteArray)] : List ByteArray) : List ByteArray)).bind fun y208 => (if 0 ≤ x9 then (if 0 ≤ (Int.tmod (rd x0 x9) 4) then (if (Int.tmod (rd x0 x9) 4) < (y208.length : Int) then (if (rdOf ByteArray.empty y208 (Int.tmod (rd x0 x9) 4)).size + 1 ≤ 9223372036854775807 then (if x7.size + ((rdOf ByteArray.empty y208 (Int.tmod (rd x0 x9) 4)).size + 1) ≤ 9223372036854775807 then (if 2 + (rdOf ByteArray.empty y208 (Int.tmod (rd x0 x9) 4)).size ≤ 9223372036854775807 then (if 2 + (rdOf ByteArray.empty y208 (Int.tmod (rd x0 x9) 4)).size + 3 ≤ 9223372036854775807 then (if 2 + (rdOf ByteArray.empty y208 (Int.tmod (rd x0 x9) 4)).size + 3 + x5.size ≤ 9223372036854775807 then (if 2 + (rdOf ByteArray.empty y208 (Int.tmod (rd x0 x9) 4)).size + 3 + x5.size + 2 ≤ 9223372036854775807 then (if x8.size + (2 + (rdOf ByteArray.empty y208 (Int.tmod (rd x0 x9) 4)).size + 3 + x5.size + 2) ≤ 9223372036854775807 then (railplanlaw3_WordsCommentsAndSpace.l0 k x0 x5 (x7 ++ ((rdOf ByteArray.empty y208 (Int.tmod (rd x0 x9) 4)) ++ (⟨#[10]⟩ : ByteArray))) (x8 ++ (((((⟨#[32, 9]⟩ : ByteArray) ++ (rdOf ByteArray.empty y208 (Int.tmod (rd x0 x9) 4))) ++ (⟨#[32, 32, 35]⟩ : ByteArray)) ++ x5) ++ (⟨#[10, 10]⟩ : ByteArray))) (wrap64 (x9 + 1))) else (none)) else (none)) else (none)) else (none)) else (none)) else (none)) else (none)) else (none)) else (none)) else (none))) else (railplanlaw3_WordsCommentsAndSpace.j1 k x7 x8)) else (railplanlaw3_WordsCommentsAndSpace.j1 k x7 x8)
end
def railplanlaw3_WordsCommentsAndSpace.f (k : Nat) (l0 : List Int) (a1 : ByteArray) : Option (Bool) := railplanlaw3_WordsCommentsAndSpace.l0 k l0 (cutC a1) (⟨#[]⟩ : ByteArray) (⟨#[]⟩ : ByteArray) 0
theorem railplanlaw3_WordsCommentsAndSpace.mono_l : ∀ k, (∀ y0 y1, LeO (railplanlaw3_WordsCommentsAndSpace.j1 k y0 y1) (railplanlaw3_WordsCommentsAndSpace.j1 (k + 1) y0 y1)) ∧ (∀ y0 y1 y2, LeO (railplanlaw3_WordsCommentsAndSpace.j2 k y0 y1 y2) (railplanlaw3_WordsCommentsAndSpace.j2 (k + 1) y0 y1 y2)) ∧ (∀ y0 y1 y2 y3, LeO (railplanlaw3_WordsCommentsAndSpace.l1 k y0 y1 y2 y3) (railplanlaw3_WordsCommentsAndSpace.l1 (k + 1) y0 y1 y2 y3)) ∧ (∀ y0 y1 y2 y3 y4, LeO (railplanlaw3_WordsCommentsAndSpace.l0 k y0 y1 y2 y3 y4) (railplanlaw3_WordsCommentsAndSpace.l0 (k + 1) y0 y1 y2 y3 y4))
  | 0 => ⟨fun _ _ r h => by simp [railplanlaw3_WordsCommentsAndSpace.j1] at h, fun _ _ _ r h => by simp [railplanlaw3_WordsCommentsAndSpace.j2] at h, fun _ _ _ _ r h => by simp [railplanlaw3_WordsCommentsAndSpace.l1] at h, fun _ _ _ _ _ r h => by simp [railplanlaw3_WordsCommentsAndSpace.l0] at h⟩
  | k + 1 => by
    obtain ⟨ih0, ih1, ih2, ih3⟩ := railplanlaw3_WordsCommentsAndSpace.mono_l k
    refine ⟨?_, ?_, ?_, ?_⟩
    · intro y0 y1
      unfold railplanlaw3_WordsCommentsAndSpace.j1
      repeat' first
      | (with_reducible exact ih0 _ _)
      | (with_reducible exact ih1 _ _ _)
      | (with_reducible exact ih2 _ _ _ _)
      | (with_reducible exact ih3 _ _ _ _ _)
      | (with_reducible exact railplanlaw3_awake.mono _)
      | (with_reducible exact words_Lines.mono _ _)
      | (with_reducible exact LeO.refl _)
      | (with_reducible exact LeO.none _)
      | (with_reducible refine LeO.ite ?_ ?_)
      | (with_reducible refine LeO.bind ?_ (fun _ => ?_))
      | exact ih0 _ _
      | exact ih1 _ _ _
      | exact ih2 _ _ _ _
      | exact ih3 _ _ _ _ _
      | exact railplanlaw3_awake.mono _
      | exact words_Lines.mono _ _
      | exact LeO.none _
      | refine LeO.ite ?_ ?_
      | refine LeO.bind ?_ (fun _ => ?_)
    · intro y0 y1 y2
      unfold railplanlaw3_WordsCommentsAndSpace.j2
      repeat' first
      | (with_reducible exact ih0 _ _)
      | (with_reducible exact ih1 _ _ _)
      | (with_reducible exact ih2 _ _ _ _)
      | (with_reducible exact ih3 _ _ _ _ _)
      | (with_reducible exact railplanlaw3_awake.mono _)
      | (with_reducible exact words_Lines.mono _ _)
      | (with_reducible exact LeO.refl _)
      | (with_reducible exact LeO.none _)
      | (with_reducible refine LeO.ite ?_ ?_)
      | (with_reducible refine LeO.bind ?_ (fun _ => ?_))
      | exact ih0 _ _
      | exact ih1 _ _ _
      | exact ih2 _ _ _ _
      | exact ih3 _ _ _ _ _
      | exact railplanlaw3_awake.mono _
      | exact words_Lines.mono _ _
      | exact LeO.none _
      | refine LeO.ite ?_ ?_
      | refine LeO.bind ?_ (fun _ => ?_)
    · intro y0 y1 y2 y3
      unfold railplanlaw3_WordsCommentsAndSpace.l1
      repeat' first
      | (with_reducible exact ih0 _ _)
      | (with_reducible exact ih1 _ _ _)
      | (with_reducible exact ih2 _ _ _ _)
      | (with_reducible exact ih3 _ _ _ _ _)
      | (with_reducible exact railplanlaw3_awake.mono _)
      | (with_reducible exact words_Lines.mono _ _)
      | (with_reducible exact LeO.refl _)
      | (with_reducible exact LeO.none _)
      | (with_reducible refine LeO.ite ?_ ?_)
      | (with_reducible refine LeO.bind ?_ (fun _ => ?_))
      | exact ih0 _ _
      | exact ih1 _ _ _
      | exact ih2 _ _ _ _
      | exact ih3 _ _ _ _ _
      | exact railplanlaw3_awake.mono _
      | exact words_Lines.mono _ _
      | exact LeO.none _
      | refine LeO.ite ?_ ?_
      | refine LeO.bind ?_ (fun _ => ?_)
    · intro y0 y1 y2 y3 y4
      unfold railplanlaw3_WordsCommentsAndSpace.l0
      repeat' first
      | (with_reducible exact ih0 _ _)
      | (with_reducible exact ih1 _ _ _)
      | (with_reducible exact ih2 _ _ _ _)
      | (with_reducible exact ih3 _ _ _ _ _)
      | (with_reducible exact railplanlaw3_awake.mono _)
      | (with_reducible exact words_Lines.mono _ _)
      | (with_reducible exact LeO.refl _)
      | (with_reducible exact LeO.none _)
      | (with_reducible refine LeO.ite ?_ ?_)
      | (with_reducible refine LeO.bind ?_ (fun _ => ?_))
      | exact ih0 _ _
      | exact ih1 _ _ _
      | exact ih2 _ _ _ _
      | exact ih3 _ _ _ _ _
      | exact railplanlaw3_awake.mono _
      | exact words_Lines.mono _ _
      | exact LeO.none _
      | refine LeO.ite ?_ ?_
      | refine LeO.bind ?_ (fun _ => ?_)
theorem railplanlaw3_WordsCommentsAndSpace.mono : ∀ a0 a1 k, LeO (railplanlaw3_WordsCommentsAndSpace.f k a0 a1) (railplanlaw3_WordsCommentsAndSpace.f (k + 1) a0 a1) := by
  intro a0 a1 k
  obtain ⟨ih0, ih1, ih2, ih3⟩ := railplanlaw3_WordsCommentsAndSpace.mono_l k
  unfold railplanlaw3_WordsCommentsAndSpace.f
  repeat' first
      | (with_reducible exact ih0 _ _)
      | (with_reducible exact ih1 _ _ _)
      | (with_reducible exact ih2 _ _ _ _)
      | (with_reducible exact ih3 _ _ _ _ _)
      | (with_reducible exact railplanlaw3_awake.mono _)
      | (with_reducible exact words_Lines.mono _ _)
      | (with_reducible exact LeO.refl _)
      | (with_reducible exact LeO.none _)
      | (with_reducible refine LeO.ite ?_ ?_)
      | (with_reducible refine LeO.bind ?_ (fun _ => ?_))
      | exact ih0 _ _
      | exact ih1 _ _ _
      | exact ih2 _ _ _ _
      | exact ih3 _ _ _ _ _
      | exact railplanlaw3_awake.mono _
      | exact words_Lines.mono _ _
      | exact LeO.none _
      | refine LeO.ite ?_ ?_
      | refine LeO.bind ?_ (fun _ => ?_)
set_option maxHeartbeats 8000000 in
set_option maxRecDepth 100000 in
theorem railplanlaw3_WordsCommentsAndSpace.calls (k : Nat) (A0 : Option Addr) (c0 : Nat) (l0 : List Int) (a1 : ByteArray) (r : Bool) (w : World) (hr0 : Kd.C (Kd.int .u8) w A0 l0.length l0) (hc0 : l0.length ≤ c0) (hL_ : Aside0 (Laid w)) (hr_ : Aside0 (r = true)) (h : railplanlaw3_WordsCommentsAndSpace.f k l0 a1 = some r) :
    Calls Tryd.prog 8 #[.slice A0 l0.length c0, .string a1] w fun e w' => e = .returned (.bool r) ∧ Below w.heap.size w w' := by
  have HR0 := Aside0.mk hr0
  have HC0 := Aside0.mk hc0
  clear hr0 hc0
  have H0_ := Aside0.mk (show (railplanlaw3_WordsCommentsAndSpace.l0 k l0 (cutC a1) (⟨#[]⟩ : ByteArray) (⟨#[]⟩ : ByteArray) 0) = some r from h)
  clear h
  go_enter Tryd.func8, Tryd.ntmps8
  go_upto_block 0 with (fail)
  go_cut [5] (fun v5 wc => ∃ y5_ : ByteArray, cutC a1 = y5_ ∧ v5 = .string y5_ ∧ Aside0 (Below w.heap.size w wc))
  case first =>
    clear H0_
    go_wp2
    go_loopg [5] (a1.size + 1) (fun kq v5 w' => ∃ (pos : Nat) (y : ByteArray), v5 = .string y ∧ Aside0 (cutC.l0 kq a1 pos y = cutC a1) ∧ Aside0 (a1.size < pos + kq) ∧ Aside0 (w'.heap[w.heap.size]? = some (.stringIter a1 pos)) ∧ Aside0 (Below w.heap.size w w') ∧ Aside0 (y.size ≤ pos))
    case atStart => exact ⟨0, ⟨#[]⟩, rfl, ⟨rfl⟩, ⟨by omega⟩, ⟨World.iter_heap w a1 0⟩, ⟨(Below.refl _ _).alloc (Nat.le_refl _) _⟩, ⟨Nat.le_refl _⟩⟩
    case round =>
      obtain ⟨pos, y, rfl, HG, HK, HI, HB, HY⟩ := hrel
      by_cases hp : pos < a1.size
      · cases gk with
        | zero => exact absurd HK.out (by omega)
        | succ k1 =>
          have hnx : ∀ ty, (Instr.next (.pointer (some ⟨w.heap.size, 0, none⟩)) true ty).run Tryd.prog wr = _ := fun ty => Lib.run_next_any_at wr w.heap.size a1 pos ty HI.out hp
          have HW := Aside0.mk (cutC_width a1 pos hp)
          have HI2 := Aside0.mk (Lib.iterAt_heap wr w.heap.size a1 pos (pos + (Utf8.decode a1 pos).2) HI.out)
          have HB2 := Aside0.mk (Lib.below_iterAt HB.out (k := w.heap.size) (Nat.le_refl _) a1 (pos + (Utf8.decode a1 pos).2))
          have hg := HG.out
          simp only [cutC.l0] at hg
          rw [if_pos hp] at hg
          have HP := Aside0.mk hp
          clear HG HI HB
          obtain ⟨wd, hwd⟩ : ∃ d, (Utf8.decode a1 pos).2 = d := ⟨_, rfl⟩
          rw [hwd] at HW HI2 HB2 hg
          simp only [hwd] at hnx
          clear hwd
          generalize wr.iterAt w.heap.size a1 (pos + wd) = wi at hnx HI2 HB2
          have hbt := bt_pos a1 pos hp
          rw [hbt] at hg
          clear hbt
          have p1 : (0 ≤ (pos : Int)) = True := eq_true (by omega)
          have p2 : ((pos : Int) < (a1.size : Int)) = True := eq_true (by omega)
          have p3 : ((pos : Int) + 1 ≤ (a1.size : Int)) = True := eq_true (by omega)
          have p4 : ((pos : Int) ≤ (pos : Int) + 1) = True := eq_true (by omega)
          by_cases h50 : pos < 50
          · rw [if_pos h50] at hg
            have h50b : decide ((pos : Int) < 50) = true := decide_eq_true (by omega)
            have h50c : decide (pos < 50) = true := decide_eq_true h50
            by_cases h10 : ((a1[pos]'hp).toNat : Int) = 10
            · rw [if_pos h10] at hg
              have h10b : (((a1[pos]'hp).toNat : Int) != 10) = false := bne_eq_false_iff_eq.mpr h10
              have HG := Aside0.mk hg
              clear hg h10 h50
              go_wp2
              go_roundg k1
              case measure => omega
              case rel => exact ⟨pos + wd, y, rfl, HG, ⟨by have := HK.out; have := HW.out; omega⟩, HI2, HB2, ⟨by have := HY.out; omega⟩⟩
            · rw [if_neg h10] at hg
              have h10b : (((a1[pos]'hp).toNat : Int) != 10) = true := bne_iff_ne.mpr h10
              have hsz : (9223372036854775807 < y.size + (min (pos + 1) a1.size - pos)) = False := eq_false (by have := HY.out; omega)
              have hs1 : (a1.extract pos (pos + 1)).size = 1 := by rw [ByteArray.size_extract]; omega
              have HS1 := Aside0.mk hs1
              have HG := Aside0.mk hg
              clear hg h10 hs1
              go_wp2
              go_roundg k1
              case measure => omega
              case rel => exact ⟨pos + wd, y ++ a1.extract pos (pos + 1), (by first | rfl | simp), HG, ⟨by have := HK.out; have := HW.out; omega⟩, HI2, HB2, ⟨by rw [ByteArray.size_append, HS1.out]; have := HY.out; have := HW.out; omega⟩⟩
          · rw [if_neg h50] at hg
            have h50b : decide ((pos : Int) < 50) = false := decide_eq_false (by omega)
            have h50c : decide (pos < 50) = false := decide_eq_false h50
            have HG := Aside0.mk hg
            clear hg h50
            go_wp2
            go_roundg k1
            case measure => omega
            case rel => exact ⟨pos + wd, y, rfl, HG, ⟨by have := HK.out; have := HW.out; omega⟩, HI2, HB2, ⟨by have := HY.out; omega⟩⟩
      · have hnx : ∀ ty, (Instr.next (.pointer (some ⟨w.heap.size, 0, none⟩)) true ty).run Tryd.prog wr = _ := fun ty => Lib.run_next_end_at wr w.heap.size a1 pos ty HI.out hp
        have HE := Aside0.mk ((HG.out.symm.trans (cutC_end _ a1 pos y hp)) : cutC a1 = y)
        go_wp2
        go_meet
        case rel => exact ⟨y, HE.out, rfl, HB⟩
  case rest =>
    obtain ⟨y5_, hy5_, rfl, HB⟩ := hcut
    have H := H0_.out
    rw [hy5_] at H
    clear H0_ hy5_
    have HC3 := Aside0.mk (show (railplanlaw3_WordsCommentsAndSpace.l0 k l0 y5_ (⟨#[]⟩ : ByteArray) (⟨#[]⟩ : ByteArray) 0) = some r from H)
    clear H
    go_upto_block 2 with (fail)
    repeat (go_quiet (fail); go_upto_block 2 with (fail))
    go_cut [7, 8] (fun v7 v8 wc => ∃ (kq : Nat) (x7_2 : ByteArray) (x8_2 : ByteArray), v7 = .string x7_2 ∧ v8 = .string x8_2 ∧ Aside0 (railplanlaw3_WordsCommentsAndSpace.j1 kq x7_2 x8_2 = some r) ∧ Aside0 (kq ≤ k) ∧ Aside0 (Below w.heap.size w wc))
    case first =>
      have H := HC3.out
      clear HC3
      have H' := Aside0.mk H
      clear H
      go_wp2
      repeat (go_quiet (fail); try go_wp2)
      go_loopg [7, 8, 9] k (fun kq v7 v8 v9 w' => ∃ (x7_1 : ByteArray) (x8_1 : ByteArray) (x9_1 : Int), v7 = .string x7_1 ∧ v8 = .string x8_1 ∧ v9 = .int .i64 x9_1 ∧ Aside0 (railplanlaw3_WordsCommentsAndSpace.l0 kq l0 y5_ x7_1 x8_1 x9_1 = some r) ∧ Aside0 (kq ≤ k) ∧ Aside0 (Below w.heap.size w w'))
      case atStart => exact ⟨((⟨#[]⟩ : ByteArray)), ((⟨#[]⟩ : ByteArray)), (0), (by first | rfl | (simp; done) | (simp [*]; done)), (by first | rfl | (simp; done) | (simp [*]; done)), (by first | rfl | (simp; done) | (simp [*]; done)), H', ⟨Nat.le_refl _⟩, ⟨by repeat (first | (with_reducible first | exact HB.out | apply below_alloc | apply pw_below_drewN | apply below_drew1) | exact HB.out)⟩⟩
      case round =>
        clear H'
        try clear p2
        obtain ⟨x7_1, x8_1, x9_1, rfl, rfl, rfl, HA, HK1, HB⟩ := hrel
        cases gk with
        | zero => exact absurd HA.out (by simp [railplanlaw3_WordsCommentsAndSpace.l0])
        | succ k1 =>
          have H := HA.out
          clear HA
          simp only [railplanlaw3_WordsCommentsAndSpace.l0] at H
          by_cases c4 : x9_1 < (l0.length : Int)
          · rw [if_pos c4] at H
            have c4b0 : decide (x9_1 < (l0.length : Int)) = true := decide_eq_true c4
            clear c4
            (first | rw [c4b0] | (simp only [i64_w, i32_w]; rw [c4b0]) | rw [c4b1] | skip)
            by_cases c5 : x9_1 < 30
            · rw [if_pos c5] at H
              have c5b0 : decide (x9_1 < 30) = true := decide_eq_true c5
              clear c5
              obtain ⟨y208, hy208⟩ : ∃ y_ : List ByteArray, y_ = (([(⟨#[97]⟩ : ByteArray), (⟨#[49, 50]⟩ : ByteArray), (⟨#[117, 112]⟩ : ByteArray), (⟨#[45]⟩ : ByteArray)] : List ByteArray)) := ⟨_, rfl⟩
              replace H : (if 0 ≤ x9_1 then (if 0 ≤ (Int.tmod (rd l0 x9_1) 4) then (if (Int.tmod (rd l0 x9_1) 4) < (y208.length : Int) then (if (rdOf ByteArray.empty y208 (Int.tmod (rd l0 x9_1) 4)).size + 1 ≤ 9223372036854775807 then (if x7_1.size + ((rdOf ByteArray.empty y208 (Int.tmod (rd l0 x9_1) 4)).size + 1) ≤ 9223372036854775807 then (if 2 + (rdOf ByteArray.empty y208 (Int.tmod (rd l0 x9_1) 4)).size ≤ 9223372036854775807 then (if 2 + (rdOf ByteArray.empty y208 (Int.tmod (rd l0 x9_1) 4)).size + 3 ≤ 9223372036854775807 then (if 2 + (rdOf ByteArray.empty y208 (Int.tmod (rd l0 x9_1) 4)).size + 3 + y5_.size ≤ 9223372036854775807 then (if 2 + (rdOf ByteArray.empty y208 (Int.tmod (rd l0 x9_1) 4)).size + 3 + y5_.size + 2 ≤ 9223372036854775807 then (if x8_1.size + (2 + (rdOf ByteArray.empty y208 (Int.tmod (rd l0 x9_1) 4)).size + 3 + y5_.size + 2) ≤ 9223372036854775807 then (railplanlaw3_WordsCommentsAndSpace.l0 k1 l0 y5_ (x7_1 ++ ((rdOf ByteArray.empty y208 (Int.tmod (rd l0 x9_1) 4)) ++ (⟨#[10]⟩ : ByteArray))) (x8_1 ++ (((((⟨#[32, 9]⟩ : ByteArray) ++ (rdOf ByteArray.empty y208 (Int.tmod (rd l0 x9_1) 4))) ++ (⟨#[32, 32, 35]⟩ : ByteArray)) ++ y5_) ++ (⟨#[10, 10]⟩ : ByteArray))) (wrap64 (x9_1 + 1))) else (none)) else (none)) else (none)) else (none)) else (none)) else (none)) else (none)) else (none)) else (none)) else (none)) = some r := by first | (rw [hy208]; with_reducible exact H) | (have H2_ := (Option.bind_some _ _).symm.trans H; rw [hy208]; with_reducible exact H2_) | (have H2_ := (Option.bind_some _ _).symm.trans H; with_reducible exact H2_) | with_reducible exact H | (rw [hy208]; exact H) | exact H
              have Ny208 := Aside0.mk hy208
              clear hy208
              by_cases c6 : 0 ≤ x9_1
              · rw [if_pos c6] at H
                have c6b0 : decide (0 ≤ x9_1) = true := decide_eq_true c6
                clear c6
                obtain ⟨ji7, hji7⟩ : ∃ j_ : Int, (Int.tmod (rd l0 x9_1) 4) = j_ := ⟨_, rfl⟩
                replace H : (if 0 ≤ (ji7) then (if (ji7) < (y208.length : Int) then (if (rdOf ByteArray.empty y208 (ji7)).size + 1 ≤ 9223372036854775807 then (if x7_1.size + ((rdOf ByteArray.empty y208 (ji7)).size + 1) ≤ 9223372036854775807 then (if 2 + (rdOf ByteArray.empty y208 (ji7)).size ≤ 9223372036854775807 then (if 2 + (rdOf ByteArray.empty y208 (ji7)).size + 3 ≤ 9223372036854775807 then (if 2 + (rdOf ByteArray.empty y208 (ji7)).size + 3 + y5_.size ≤ 9223372036854775807 then (if 2 + (rdOf ByteArray.empty y208 (ji7)).size + 3 + y5_.size + 2 ≤ 9223372036854775807 then (if x8_1.size + (2 + (rdOf ByteArray.empty y208 (ji7)).size + 3 + y5_.size + 2) ≤ 9223372036854775807 then (railplanlaw3_WordsCommentsAndSpace.l0 k1 l0 y5_ (x7_1 ++ ((rdOf ByteArray.empty y208 (ji7)) ++ (⟨#[10]⟩ : ByteArray))) (x8_1 ++ (((((⟨#[32, 9]⟩ : ByteArray) ++ (rdOf ByteArray.empty y208 (ji7))) ++ (⟨#[32, 32, 35]⟩ : ByteArray)) ++ y5_) ++ (⟨#[10, 10]⟩ : ByteArray))) (wrap64 (x9_1 + 1))) else (none)) else (none)) else (none)) else (none)) else (none)) else (none)) else (none)) else (none)) else (none)) = some r := by first | (rw [hji7] at H; exact H) | (simp only [hji7] at H ⊢; exact H)
                by_cases c8 : 0 ≤ (ji7)
                · rw [if_pos c8] at H
                  have c8b0 : decide (0 ≤ (ji7)) = true := decide_eq_true c8
                  clear c8
                  by_cases c9 : (ji7) < (y208.length : Int)
                  · rw [if_pos c9] at H
                    have c9b0 : decide ((ji7) < (y208.length : Int)) = true := decide_eq_true c9
                    clear c9
                    by_cases c10 : (rdOf ByteArray.empty y208 (ji7)).size + 1 ≤ 9223372036854775807
                    · rw [if_pos c10] at H
                      have c10b0 := eq_true c10
                      have c10b1 : decide ((rdOf ByteArray.empty y208 (ji7)).size + 1 ≤ 9223372036854775807) = true := decide_eq_true c10
                      try have c10b2 : (9223372036854775807 < (rdOf ByteArray.empty y208 (ji7)).size + 1) = False := eq_false (Nat.not_lt.2 c10)
                      by_cases c11 : x7_1.size + ((rdOf ByteArray.empty y208 (ji7)).size + 1) ≤ 9223372036854775807
                      · rw [if_pos c11] at H
                        have c11b0 := eq_true c11
                        have c11b1 : decide (x7_1.size + ((rdOf ByteArray.empty y208 (ji7)).size + 1) ≤ 9223372036854775807) = true := decide_eq_true c11
                        try have c11b2 : (9223372036854775807 < x7_1.size + ((rdOf ByteArray.empty y208 (ji7)).size + 1)) = False := eq_false (Nat.not_lt.2 c11)
                        by_cases c12 : 2 + (rdOf ByteArray.empty y208 (ji7)).size ≤ 9223372036854775807
                        · rw [if_pos c12] at H
                          have c12b0 := eq_true c12
                          have c12b1 : decide (2 + (rdOf ByteArray.empty y208 (ji7)).size ≤ 9223372036854775807) = true := decide_eq_true c12
                          try have c12b2 : (9223372036854775807 < 2 + (rdOf ByteArray.empty y208 (ji7)).size) = False := eq_false (Nat.not_lt.2 c12)
                          by_cases c13 : 2 + (rdOf ByteArray.empty y208 (ji7)).size + 3 ≤ 9223372036854775807
                          · rw [if_pos c13] at H
                            have c13b0 := eq_true c13
                            have c13b1 : decide (2 + (rdOf ByteArray.empty y208 (ji7)).size + 3 ≤ 9223372036854775807) = true := decide_eq_true c13
                            try have c13b2 : (9223372036854775807 < 2 + (rdOf ByteArray.empty y208 (ji7)).size + 3) = False := eq_false (Nat.not_lt.2 c13)
                            by_cases c14 : 2 + (rdOf ByteArray.empty y208 (ji7)).size + 3 + y5_.size ≤ 9223372036854775807
                            · rw [if_pos c14] at H
                              have c14b0 := eq_true c14
                              have c14b1 : decide (2 + (rdOf ByteArray.empty y208 (ji7)).size + 3 + y5_.size ≤ 9223372036854775807) = true := decide_eq_true c14
                              try have c14b2 : (9223372036854775807 < 2 + (rdOf ByteArray.empty y208 (ji7)).size + 3 + y5_.size) = False := eq_false (Nat.not_lt.2 c14)
                              by_cases c15 : 2 + (rdOf ByteArray.empty y208 (ji7)).size + 3 + y5_.size + 2 ≤ 9223372036854775807
                              · rw [if_pos c15] at H
                                have c15b0 := eq_true c15
                                have c15b1 : decide (2 + (rdOf ByteArray.empty y208 (ji7)).size + 3 + y5_.size + 2 ≤ 9223372036854775807) = true := decide_eq_true c15
                                try have c15b2 : (9223372036854775807 < 2 + (rdOf ByteArray.empty y208 (ji7)).size + 3 + y5_.size + 2) = False := eq_false (Nat.not_lt.2 c15)
                                by_cases c16 : x8_1.size + (2 + (rdOf ByteArray.empty y208 (ji7)).size + 3 + y5_.size + 2) ≤ 9223372036854775807
                                · rw [if_pos c16] at H
                                  have c16b0 := eq_true c16
                                  have c16b1 : decide (x8_1.size + (2 + (rdOf ByteArray.empty y208 (ji7)).size + 3 + y5_.size + 2) ≤ 9223372036854775807) = true := decide_eq_true c16
                                  try have c16b2 : (9223372036854775807 < x8_1.size + (2 + (rdOf ByteArray.empty y208 (ji7)).size + 3 + y5_.size + 2)) = False := eq_false (Nat.not_lt.2 c16)
                                  have H' := Aside0.mk H
                                  clear H
                                  go_wp2_with (first | ((with_reducible refine gate_dst (N := 48) rfl ?_); (try (refine gate_guard (by rfl) ?_; dsimp only)); refine Kd.R_lit Kd.string _ 9 ?hg (N := 48) ?hd (xs := ([(⟨#[97]⟩ : ByteArray), (⟨#[49, 50]⟩ : ByteArray), (⟨#[117, 112]⟩ : ByteArray), (⟨#[45]⟩ : ByteArray)] : List ByteArray)) (inner := [.string (⟨#[97]⟩ : ByteArray), .string (⟨#[49, 50]⟩ : ByteArray), .string (⟨#[117, 112]⟩ : ByteArray), .string (⟨#[45]⟩ : ByteArray)]) (ok := fun _ => True) (okp := fun _ => True) ?hr ?hp (fun _ hk => hk) trivial (Below.refl _ _) (Nat.le_refl _) (by simp) ?_; (case hd => rfl); (case hg => rfl); (case hr => first | (go_simp; done) | (go_simp; rfl)); (case hp => exact (Reps.one (show Kd.M Kd.string _ _ _ (⟨#[97]⟩ : ByteArray) [.string (⟨#[97]⟩ : ByteArray)] from rfl) (Reps.one (show Kd.M Kd.string _ _ _ (⟨#[49, 50]⟩ : ByteArray) [.string (⟨#[49, 50]⟩ : ByteArray)] from rfl) (Reps.one (show Kd.M Kd.string _ _ _ (⟨#[117, 112]⟩ : ByteArray) [.string (⟨#[117, 112]⟩ : ByteArray)] from rfl) (Reps.one (show Kd.M Kd.string _ _ _ (⟨#[45]⟩ : ByteArray) [.string (⟨#[45]⟩ : ByteArray)] from rfl) (Reps.none _ _)))))); intro v209 w17 ho18 hb hg_ hnew_; clear hg_ hnew_; (first | rw [← Ny208.out] at ho18 | (simp only [Int.reduceToNat] at ho18; rw [← Ny208.out] at ho18)); have n0_ := Aside0.mk (Kd.R_lower ho18 (below_size (by repeat (first | (with_reducible first | exact HB.out | apply below_alloc | apply pw_below_drewN | apply below_drew1) | exact HB.out)))); have n1_ := Aside0.mk (below_step (by repeat (first | (with_reducible first | exact HB.out | apply below_alloc | apply pw_below_drewN | apply below_drew1) | exact HB.out)) hb); clear HB; have HO210 := n0_; have HB := n1_; clear n0_ n1_; clear hb ho18; have p211 : 0 ≤ (x9_1 : Int) := of_decide_eq_true (by first | (with_reducible assumption) | assumption); have q211 : x9_1 < (l0.length : Int) := of_decide_eq_true (by first | (with_reducible assumption) | assumption); obtain ⟨ad211, e211, hx211_0⟩ := Kd.at_int HR0.out x9_1 p211 q211; cases e211; replace hx211_0 := (HB.out.cell (World.block_lt_of_cell? w _ hx211_0)).trans hx211_0; replace p211 := eq_true p211; replace q211 := eq_true q211; obtain ⟨Ao19, co19, eo19⟩ := Kd.R_slice HO210.out; subst eo19; have p212 : 0 ≤ ((ji7) : Int) := of_decide_eq_true (by first | (with_reducible assumption) | assumption); have q212 : (ji7) < (y208.length : Int) := of_decide_eq_true (by first | (with_reducible assumption) | assumption); obtain ⟨ad212, e212, hx212_0⟩ := Kd.at_string (Kd.R_reads' HO210.out).2.2 (ji7) p212 q212; cases e212; replace p212 := eq_true p212; replace q212 := eq_true q212))
                                  repeat (go_quiet (first | ((with_reducible refine gate_dst (N := 48) rfl ?_); (try (refine gate_guard (by rfl) ?_; dsimp only)); refine Kd.R_lit Kd.string _ 9 ?hg (N := 48) ?hd (xs := ([(⟨#[97]⟩ : ByteArray), (⟨#[49, 50]⟩ : ByteArray), (⟨#[117, 112]⟩ : ByteArray), (⟨#[45]⟩ : ByteArray)] : List ByteArray)) (inner := [.string (⟨#[97]⟩ : ByteArray), .string (⟨#[49, 50]⟩ : ByteArray), .string (⟨#[117, 112]⟩ : ByteArray), .string (⟨#[45]⟩ : ByteArray)]) (ok := fun _ => True) (okp := fun _ => True) ?hr ?hp (fun _ hk => hk) trivial (Below.refl _ _) (Nat.le_refl _) (by simp) ?_; (case hd => rfl); (case hg => rfl); (case hr => first | (go_simp; done) | (go_simp; rfl)); (case hp => exact (Reps.one (show Kd.M Kd.string _ _ _ (⟨#[97]⟩ : ByteArray) [.string (⟨#[97]⟩ : ByteArray)] from rfl) (Reps.one (show Kd.M Kd.string _ _ _ (⟨#[49, 50]⟩ : ByteArray) [.string (⟨#[49, 50]⟩ : ByteArray)] from rfl) (Reps.one (show Kd.M Kd.string _ _ _ (⟨#[117, 112]⟩ : ByteArray) [.string (⟨#[117, 112]⟩ : ByteArray)] from rfl) (Reps.one (show Kd.M Kd.string _ _ _ (⟨#[45]⟩ : ByteArray) [.string (⟨#[45]⟩ : ByteArray)] from rfl) (Reps.none _ _)))))); intro v209 w17 ho18 hb hg_ hnew_; clear hg_ hnew_; (first | rw [← Ny208.out] at ho18 | (simp only [Int.reduceToNat] at ho18; rw [← Ny208.out] at ho18)); have n0_ := Aside0.mk (Kd.R_lower ho18 (below_size (by repeat (first | (with_reducible first | exact HB.out | apply below_alloc | apply pw_below_drewN | apply below_drew1) | exact HB.out)))); have n1_ := Aside0.mk (below_step (by repeat (first | (with_reducible first | exact HB.out | apply below_alloc | apply pw_below_drewN | apply below_drew1) | exact HB.out)) hb); clear HB; have HO210 := n0_; have HB := n1_; clear n0_ n1_; clear hb ho18; have p211 : 0 ≤ (x9_1 : Int) := of_decide_eq_true (by first | (with_reducible assumption) | assumption); have q211 : x9_1 < (l0.length : Int) := of_decide_eq_true (by first | (with_reducible assumption) | assumption); obtain ⟨ad211, e211, hx211_0⟩ := Kd.at_int HR0.out x9_1 p211 q211; cases e211; replace hx211_0 := (HB.out.cell (World.block_lt_of_cell? w _ hx211_0)).trans hx211_0; replace p211 := eq_true p211; replace q211 := eq_true q211; obtain ⟨Ao19, co19, eo19⟩ := Kd.R_slice HO210.out; subst eo19; have p212 : 0 ≤ ((ji7) : Int) := of_decide_eq_true (by first | (with_reducible assumption) | assumption); have q212 : (ji7) < (y208.length : Int) := of_decide_eq_true (by first | (with_reducible assumption) | assumption); obtain ⟨ad212, e212, hx212_0⟩ := Kd.at_string (Kd.R_reads' HO210.out).2.2 (ji7) p212 q212; cases e212; replace p212 := eq_true p212; replace q212 := eq_true q212)); try go_wp2_with (first | ((with_reducible refine gate_dst (N := 48) rfl ?_); (try (refine gate_guard (by rfl) ?_; dsimp only)); refine Kd.R_lit Kd.string _ 9 ?hg (N := 48) ?hd (xs := ([(⟨#[97]⟩ : ByteArray), (⟨#[49, 50]⟩ : ByteArray), (⟨#[117, 112]⟩ : ByteArray), (⟨#[45]⟩ : ByteArray)] : List ByteArray)) (inner := [.string (⟨#[97]⟩ : ByteArray), .string (⟨#[49, 50]⟩ : ByteArray), .string (⟨#[117, 112]⟩ : ByteArray), .string (⟨#[45]⟩ : ByteArray)]) (ok := fun _ => True) (okp := fun _ => True) ?hr ?hp (fun _ hk => hk) trivial (Below.refl _ _) (Nat.le_refl _) (by simp) ?_; (case hd => rfl); (case hg => rfl); (case hr => first | (go_simp; done) | (go_simp; rfl)); (case hp => exact (Reps.one (show Kd.M Kd.string _ _ _ (⟨#[97]⟩ : ByteArray) [.string (⟨#[97]⟩ : ByteArray)] from rfl) (Reps.one (show Kd.M Kd.string _ _ _ (⟨#[49, 50]⟩ : ByteArray) [.string (⟨#[49, 50]⟩ : ByteArray)] from rfl) (Reps.one (show Kd.M Kd.string _ _ _ (⟨#[117, 112]⟩ : ByteArray) [.string (⟨#[117, 112]⟩ : ByteArray)] from rfl) (Reps.one (show Kd.M Kd.string _ _ _ (⟨#[45]⟩ : ByteArray) [.string (⟨#[45]⟩ : ByteArray)] from rfl) (Reps.none _ _)))))); intro v209 w17 ho18 hb hg_ hnew_; clear hg_ hnew_; (first | rw [← Ny208.out] at ho18 | (simp only [Int.reduceToNat] at ho18; rw [← Ny208.out] at ho18)); have n0_ := Aside0.mk (Kd.R_lower ho18 (below_size (by repeat (first | (with_reducible first | exact HB.out | apply below_alloc | apply pw_below_drewN | apply below_drew1) | exact HB.out)))); have n1_ := Aside0.mk (below_step (by repeat (first | (with_reducible first | exact HB.out | apply below_alloc | apply pw_below_drewN | apply below_drew1) | exact HB.out)) hb); clear HB; have HO210 := n0_; have HB := n1_; clear n0_ n1_; clear hb ho18; have p211 : 0 ≤ (x9_1 : Int) := of_decide_eq_true (by first | (with_reducible assumption) | assumption); have q211 : x9_1 < (l0.length : Int) := of_decide_eq_true (by first | (with_reducible assumption) | assumption); obtain ⟨ad211, e211, hx211_0⟩ := Kd.at_int HR0.out x9_1 p211 q211; cases e211; replace hx211_0 := (HB.out.cell (World.block_lt_of_cell? w _ hx211_0)).trans hx211_0; replace p211 := eq_true p211; replace q211 := eq_true q211; obtain ⟨Ao19, co19, eo19⟩ := Kd.R_slice HO210.out; subst eo19; have p212 : 0 ≤ ((ji7) : Int) := of_decide_eq_true (by first | (with_reducible assumption) | assumption); have q212 : (ji7) < (y208.length : Int) := of_decide_eq_true (by first | (with_reducible assumption) | assumption); obtain ⟨ad212, e212, hx212_0⟩ := Kd.at_string (Kd.R_reads' HO210.out).2.2 (ji7) p212 q212; cases e212; replace p212 := eq_true p212; replace q212 := eq_true q212)))
                                  go_roundg k1
                                  case measure => have := HK1.out; omega
                                  case rel => exact ⟨(x7_1 ++ ((rdOf ByteArray.empty y208 (ji7)) ++ (⟨#[10]⟩ : ByteArray))), (x8_1 ++ (((((⟨#[32, 9]⟩ : ByteArray) ++ (rdOf ByteArray.empty y208 (ji7))) ++ (⟨#[32, 32, 35]⟩ : ByteArray)) ++ y5_) ++ (⟨#[10, 10]⟩ : ByteArray))), (wrap64 (x9_1 + 1)), (by first | rfl | (simp; done) | (simp only [← hji7] <;> (first | rfl | simp)) | (simp [*]; done)), (by first | rfl | (simp; done) | (simp only [← hji7] <;> (first | rfl | simp)) | (simp [*]; done)), (by first | rfl | (simp; done) | (simp [*]; done)), H', ⟨by have := HK1.out; omega⟩, ⟨by repeat (first | (with_reducible first | exact HB.out | apply below_alloc | apply pw_below_drewN | apply below_drew1) | exact HB.out)⟩⟩
                                · rw [if_neg c16] at H
                                  exact absurd H (by simp)
                              · rw [if_neg c15] at H
                                exact absurd H (by simp)
                            · rw [if_neg c14] at H
                              exact absurd H (by simp)
                          · rw [if_neg c13] at H
                            exact absurd H (by simp)
                        · rw [if_neg c12] at H
                          exact absurd H (by simp)
                      · rw [if_neg c11] at H
                        exact absurd H (by simp)
                    · rw [if_neg c10] at H
                      exact absurd H (by simp)
                  · rw [if_neg c9] at H
                    exact absurd H (by simp)
                · rw [if_neg c8] at H
                  exact absurd H (by simp)
              · rw [if_neg c6] at H
                exact absurd H (by simp)
            · rw [if_neg c5] at H
              have c5b0 : decide (x9_1 < 30) = false := decide_eq_false c5
              clear c5
              have H' := Aside0.mk H
              clear H
              go_wp2
              repeat (go_quiet (fail); try go_wp2)
              go_meet
              case rel => exact ⟨_, (x7_1), (x8_1), (by first | rfl | (simp; done) | (simp [*]; done)), (by first | rfl | (simp; done) | (simp [*]; done)), H', ⟨by have := HK1.out; first | omega | exact Nat.le_refl _⟩, ⟨by repeat (first | (with_reducible first | exact HB.out | apply below_alloc | apply pw_below_drewN | apply below_drew1) | exact HB.out)⟩⟩
          · rw [if_neg c4] at H
            have c4b0 : decide (x9_1 < (l0.length : Int)) = false := decide_eq_false c4
            clear c4
            (first | rw [c4b0] | (simp only [i64_w, i32_w]; rw [c4b0]) | rw [c4b1] | skip)
            have H' := Aside0.mk H
            clear H
            go_wp2
            repeat (go_quiet (fail); try go_wp2)
            go_meet
            case rel => exact ⟨_, (x7_1), (x8_1), (by first | rfl | (simp; done) | (simp [*]; done)), (by first | rfl | (simp; done) | (simp [*]; done)), H', ⟨by have := HK1.out; first | omega | exact Nat.le_refl _⟩, ⟨by repeat (first | (with_reducible first | exact HB.out | apply below_alloc | apply pw_below_drewN | apply below_drew1) | exact HB.out)⟩⟩
    case rest =>
      clear HC3
      try clear c1
      try clear p2
      try clear q2
      try clear hx2
      try clear c4
      try clear c4b0
      try clear c4b1
      try clear c5
      try clear c5b0
      try clear c6
      try clear c6b0
      try clear p6
      try clear c8
      try clear c8b0
      try clear c9
      try clear c9b0
      try clear c10
      try clear c10b0
      try clear c10b1
      try clear c10b2
      try clear c11
      try clear c11b0
      try clear c11b1
      try clear c11b2
      try clear c12
      try clear c12b0
      try clear c12b1
      try clear c12b2
      try clear c13
      try clear c13b0
      try clear c13b1
      try clear c13b2
      try clear c14
      try clear c14b0
      try clear c14b1
      try clear c14b2
      try clear c15
      try clear c15b0
      try clear c15b1
      try clear c15b2
      try clear c16
      try clear c16b0
      try clear c16b1
      try clear c16b2
      try clear hx211_0
      try clear hx212_0
      try clear p2
      try clear p211
      try clear p212
      try clear q211
      try clear q212
      obtain ⟨kq, x7_2, x8_2, rfl, rfl, HA, HJ2, HB⟩ := hcut
      cases kq with
      | zero => exact absurd HA.out (by simp [railplanlaw3_WordsCommentsAndSpace.j1])
      | succ kj2 =>
        have H := HA.out
        clear HA
        simp only [railplanlaw3_WordsCommentsAndSpace.j1] at H
        replace H := Option.bind_eq_some_iff.mp H
        obtain ⟨⟨t213, t214, t215⟩, A200, H⟩ := H
        replace H : ((words_Lines.f kj2 x8_2).bind fun bt218 => ((railplanlaw3_awake.f kj2).bind fun t223 => (if t223 = true then (if t215 = 0 then (if bt218.2.2 = 0 then (railplanlaw3_WordsCommentsAndSpace.j2 kj2 t213 bt218.1 ((t213.length : Int) != (bt218.1.length : Int))) else (railplanlaw3_WordsCommentsAndSpace.j2 kj2 t213 bt218.1 true)) else (railplanlaw3_WordsCommentsAndSpace.j2 kj2 t213 bt218.1 true)) else (railplanlaw3_WordsCommentsAndSpace.j2 kj2 t213 bt218.1 true)))) = some r := H
        have A20 := Aside0.mk A200
        clear A200
        replace H := Option.bind_eq_some_iff.mp H
        obtain ⟨⟨t218, t219, t220⟩, A210, H⟩ := H
        replace H : ((railplanlaw3_awake.f kj2).bind fun t223 => (if t223 = true then (if t215 = 0 then (if t220 = 0 then (railplanlaw3_WordsCommentsAndSpace.j2 kj2 t213 t218 ((t213.length : Int) != (t218.length : Int))) else (railplanlaw3_WordsCommentsAndSpace.j2 kj2 t213 t218 true)) else (railplanlaw3_WordsCommentsAndSpace.j2 kj2 t213 t218 true)) else (railplanlaw3_WordsCommentsAndSpace.j2 kj2 t213 t218 true))) = some r := H
        have A21 := Aside0.mk A210
        clear A210
        have HC22 := Aside0.mk H
        clear H
        go_upto_region 17 with (first | (go_at_call 13; (with_reducible refine (words_Lines.calls kj2 x7_2 t213 t214 t215 _ ?side1 A20.out).mono ?_); (case side1 => exact ⟨hL_.out.below (by repeat (first | (with_reducible first | exact HB.out | apply below_alloc | apply pw_below_drewN | apply below_drew1) | exact HB.out))⟩); rintro e w23 ⟨v216, rfl, ho0, hb⟩; have n0_ := Aside0.mk (Kd.S_lower ho0 (below_size (by repeat (first | (with_reducible first | exact HB.out | apply below_alloc | apply pw_below_drewN | apply below_drew1) | exact HB.out)))); have n1_ := Aside0.mk (below_step (by repeat (first | (with_reducible first | exact HB.out | apply below_alloc | apply pw_below_drewN | apply below_drew1) | exact HB.out)) hb); clear HB; have HO217 := n0_; have HB := n1_; clear n0_ n1_; (try clear hb); (try clear hb2); (try clear hk); (try clear hi); (try clear ho0)) | (go_at_call 13; (with_reducible refine (words_Lines.calls kj2 x8_2 t218 t219 t220 _ ?side1 A21.out).mono ?_); (case side1 => exact ⟨hL_.out.below (by repeat (first | (with_reducible first | exact HB.out | apply below_alloc | apply pw_below_drewN | apply below_drew1) | exact HB.out))⟩); rintro e w24 ⟨v221, rfl, ho0, hb⟩; have n0_ := Aside0.mk (Kd.S_elder' (by (with_reducible repeat (first | apply Kd.S_alloc | apply Kd.S_drewN | apply Kd.S_drew)); exact HO217.out) (Kd.S_base ho0) hb); have n1_ := Aside0.mk (Kd.S_lower (Kd.S_new' ho0 (Kd.S_lt (by (with_reducible repeat (first | apply Kd.S_alloc | apply Kd.S_drewN | apply Kd.S_drew)); exact HO217.out))) (below_size (by repeat (first | (with_reducible first | exact HB.out | apply below_alloc | apply pw_below_drewN | apply below_drew1) | exact HB.out)))); have n2_ := Aside0.mk (below_step (by repeat (first | (with_reducible first | exact HB.out | apply below_alloc | apply pw_below_drewN | apply below_drew1) | exact HB.out)) hb); clear HO217; clear HB; have HO217 := n0_; have HO222 := n1_; have HB := n2_; clear n0_ n1_ n2_; (try clear hb); (try clear hb2); (try clear hk); (try clear hi); (try clear ho0)))
        repeat (go_quiet (first | (go_at_call 13; (with_reducible refine (words_Lines.calls kj2 x7_2 t213 t214 t215 _ ?side1 A20.out).mono ?_); (case side1 => exact ⟨hL_.out.below (by repeat (first | (with_reducible first | exact HB.out | apply below_alloc | apply pw_below_drewN | apply below_drew1) | exact HB.out))⟩); rintro e w23 ⟨v216, rfl, ho0, hb⟩; have n0_ := Aside0.mk (Kd.S_lower ho0 (below_size (by repeat (first | (with_reducible first | exact HB.out | apply below_alloc | apply pw_below_drewN | apply below_drew1) | exact HB.out)))); have n1_ := Aside0.mk (below_step (by repeat (first | (with_reducible first | exact HB.out | apply below_alloc | apply pw_below_drewN | apply below_drew1) | exact HB.out)) hb); clear HB; have HO217 := n0_; have HB := n1_; clear n0_ n1_; (try clear hb); (try clear hb2); (try clear hk); (try clear hi); (try clear ho0)) | (go_at_call 13; (with_reducible refine (words_Lines.calls kj2 x8_2 t218 t219 t220 _ ?side1 A21.out).mono ?_); (case side1 => exact ⟨hL_.out.below (by repeat (first | (with_reducible first | exact HB.out | apply below_alloc | apply pw_below_drewN | apply below_drew1) | exact HB.out))⟩); rintro e w24 ⟨v221, rfl, ho0, hb⟩; have n0_ := Aside0.mk (Kd.S_elder' (by (with_reducible repeat (first | apply Kd.S_alloc | apply Kd.S_drewN | apply Kd.S_drew)); exact HO217.out) (Kd.S_base ho0) hb); have n1_ := Aside0.mk (Kd.S_lower (Kd.S_new' ho0 (Kd.S_lt (by (with_reducible repeat (first | apply Kd.S_alloc | apply Kd.S_drewN | apply Kd.S_drew)); exact HO217.out))) (below_size (by repeat (first | (with_reducible first | exact HB.out | apply below_alloc | apply pw_below_drewN | apply below_drew1) | exact HB.out)))); have n2_ := Aside0.mk (below_step (by repeat (first | (with_reducible first | exact HB.out | apply below_alloc | apply pw_below_drewN | apply below_drew1) | exact HB.out)) hb); clear HO217; clear HB; have HO217 := n0_; have HO222 := n1_; have HB := n2_; clear n0_ n1_ n2_; (try clear hb); (try clear hb2); (try clear hk); (try clear hi); (try clear ho0))); go_upto_region 17 with (first | (go_at_call 13; (with_reducible refine (words_Lines.calls kj2 x7_2 t213 t214 t215 _ ?side1 A20.out).mono ?_); (case side1 => exact ⟨hL_.out.below (by repeat (first | (with_reducible first | exact HB.out | apply below_alloc | apply pw_below_drewN | apply below_drew1) | exact HB.out))⟩); rintro e w23 ⟨v216, rfl, ho0, hb⟩; have n0_ := Aside0.mk (Kd.S_lower ho0 (below_size (by repeat (first | (with_reducible first | exact HB.out | apply below_alloc | apply pw_below_drewN | apply below_drew1) | exact HB.out)))); have n1_ := Aside0.mk (below_step (by repeat (first | (with_reducible first | exact HB.out | apply below_alloc | apply pw_below_drewN | apply below_drew1) | exact HB.out)) hb); clear HB; have HO217 := n0_; have HB := n1_; clear n0_ n1_; (try clear hb); (try clear hb2); (try clear hk); (try clear hi); (try clear ho0)) | (go_at_call 13; (with_reducible refine (words_Lines.calls kj2 x8_2 t218 t219 t220 _ ?side1 A21.out).mono ?_); (case side1 => exact ⟨hL_.out.below (by repeat (first | (with_reducible first | exact HB.out | apply below_alloc | apply pw_below_drewN | apply below_drew1) | exact HB.out))⟩); rintro e w24 ⟨v221, rfl, ho0, hb⟩; have n0_ := Aside0.mk (Kd.S_elder' (by (with_reducible repeat (first | apply Kd.S_alloc | apply Kd.S_drewN | apply Kd.S_drew)); exact HO217.out) (Kd.S_base ho0) hb); have n1_ := Aside0.mk (Kd.S_lower (Kd.S_new' ho0 (Kd.S_lt (by (with_reducible repeat (first | apply Kd.S_alloc | apply Kd.S_drewN | apply Kd.S_drew)); exact HO217.out))) (below_size (by repeat (first | (with_reducible first | exact HB.out | apply below_alloc | apply pw_below_drewN | apply below_drew1) | exact HB.out)))); have n2_ := Aside0.mk (below_step (by repeat (first | (with_reducible first | exact HB.out | apply below_alloc | apply pw_below_drewN | apply below_drew1) | exact HB.out)) hb); clear HO217; clear HB; have HO217 := n0_; have HO222 := n1_; have HB := n2_; clear n0_ n1_ n2_; (try clear hb); (try clear hb2); (try clear hk); (try clear hi); (try clear ho0))))
        (try simp only [Act.put, List.setIfInBounds_toArray, List.set_cons_zero, List.set_cons_succ])
        go_cut [96] (fun v96 wc => ∃ (kq : Nat) (x96_21 : Bool), v96 = .bool x96_21 ∧ Aside0 (railplanlaw3_WordsCommentsAndSpace.j2 kq t213 t218 x96_21 = some r) ∧ Aside0 (kq ≤ kj2) ∧ Aside0 (Kd.S (Kd.slice 32 k32) 33 wc w.heap.size (fun k_ => some k_ ≠ (v221 : Value).ownBlock) v216 t213) ∧ Aside0 (Kd.S (Kd.slice 32 k32) 33 wc w.heap.size (fun k_ => some k_ ≠ (v216 : Value).ownBlock) v221 t218) ∧ Aside0 (Below w.heap.size w wc))
        case first =>
          have H := HC22.out
          clear HC22
          replace H := Option.bind_eq_some_iff.mp H
          obtain ⟨t223, A250, H⟩ := H
          replace H : (if t223 = true then (if t215 = 0 then (if t220 = 0 then (railplanlaw3_WordsCommentsAndSpace.j2 kj2 t213 t218 ((t213.length : Int) != (t218.length : Int))) else (railplanlaw3_WordsCommentsAndSpace.j2 kj2 t213 t218 true)) else (railplanlaw3_WordsCommentsAndSpace.j2 kj2 t213 t218 true)) else (railplanlaw3_WordsCommentsAndSpace.j2 kj2 t213 t218 true)) = some r := H
          have A25 := Aside0.mk A250
          clear A250
          by_cases c26 : t223 = true
          · subst c26
            have H1 : (if t215 = 0 then (if t220 = 0 then (railplanlaw3_WordsCommentsAndSpace.j2 kj2 t213 t218 ((t213.length : Int) != (t218.length : Int))) else (railplanlaw3_WordsCommentsAndSpace.j2 kj2 t213 t218 true)) else (railplanlaw3_WordsCommentsAndSpace.j2 kj2 t213 t218 true)) = some r := by rw [if_pos rfl] at H; exact H
            clear H
            have H := H1
            clear H1
            by_cases c27 : t215 = 0
            · rw [if_pos c27] at H
              have c27b0 : (t215 == 0) = true := beq_iff_eq.mpr c27
              have c27b1 : (t215 != 0) = false := bne_eq_false_iff_eq.mpr c27
              clear c27
              (first | rw [c27b0] | (simp only [i64_w, i32_w]; rw [c27b0]) | rw [c27b1] | skip)
              by_cases c28 : t220 = 0
              · rw [if_pos c28] at H
                have c28b0 : (t220 == 0) = true := beq_iff_eq.mpr c28
                have c28b1 : (t220 != 0) = false := bne_eq_false_iff_eq.mpr c28
                clear c28
                have H' := Aside0.mk H
                clear H
                go_wp2_with (first | (go_at_call 18; (with_reducible refine (railplanlaw3_awake.calls kj2  true _ ?side1 A25.out).mono ?_); (case side1 => exact ⟨hL_.out.below (by repeat (first | (with_reducible first | exact HB.out | apply below_alloc | apply pw_below_drewN | apply below_drew1) | exact HB.out))⟩); rintro e w29 ⟨rfl, hb⟩; have n0_ := Aside0.mk (Kd.S_below (by (with_reducible repeat (first | apply Kd.S_alloc | apply Kd.S_drewN | apply Kd.S_drew)); exact HO217.out) hb); have n1_ := Aside0.mk (Kd.S_below (by (with_reducible repeat (first | apply Kd.S_alloc | apply Kd.S_drewN | apply Kd.S_drew)); exact HO222.out) hb); have n2_ := Aside0.mk (below_step (by repeat (first | (with_reducible first | exact HB.out | apply below_alloc | apply pw_below_drewN | apply below_drew1) | exact HB.out)) hb); clear HO217; clear HO222; clear HB; have HO217 := n0_; have HO222 := n1_; have HB := n2_; clear n0_ n1_ n2_; (try clear hb); (try clear hb2); (try clear hk); (try clear hi); obtain ⟨Ao30, co30, eo30⟩ := Kd.S_slice HO217.out; subst eo30; obtain ⟨Ao31, co31, eo31⟩ := Kd.S_slice HO222.out; subst eo31))
                repeat (go_quiet (first | (go_at_call 18; (with_reducible refine (railplanlaw3_awake.calls kj2  true _ ?side1 A25.out).mono ?_); (case side1 => exact ⟨hL_.out.below (by repeat (first | (with_reducible first | exact HB.out | apply below_alloc | apply pw_below_drewN | apply below_drew1) | exact HB.out))⟩); rintro e w29 ⟨rfl, hb⟩; have n0_ := Aside0.mk (Kd.S_below (by (with_reducible repeat (first | apply Kd.S_alloc | apply Kd.S_drewN | apply Kd.S_drew)); exact HO217.out) hb); have n1_ := Aside0.mk (Kd.S_below (by (with_reducible repeat (first | apply Kd.S_alloc | apply Kd.S_drewN | apply Kd.S_drew)); exact HO222.out) hb); have n2_ := Aside0.mk (below_step (by repeat (first | (with_reducible first | exact HB.out | apply below_alloc | apply pw_below_drewN | apply below_drew1) | exact HB.out)) hb); clear HO217; clear HO222; clear HB; have HO217 := n0_; have HO222 := n1_; have HB := n2_; clear n0_ n1_ n2_; (try clear hb); (try clear hb2); (try clear hk); (try clear hi); obtain ⟨Ao30, co30, eo30⟩ := Kd.S_slice HO217.out; subst eo30; obtain ⟨Ao31, co31, eo31⟩ := Kd.S_slice HO222.out; subst eo31)); try go_wp2_with (first | (go_at_call 18; (with_reducible refine (railplanlaw3_awake.calls kj2  true _ ?side1 A25.out).mono ?_); (case side1 => exact ⟨hL_.out.below (by repeat (first | (with_reducible first | exact HB.out | apply below_alloc | apply pw_below_drewN | apply below_drew1) | exact HB.out))⟩); rintro e w29 ⟨rfl, hb⟩; have n0_ := Aside0.mk (Kd.S_below (by (with_reducible repeat (first | apply Kd.S_alloc | apply Kd.S_drewN | apply Kd.S_drew)); exact HO217.out) hb); have n1_ := Aside0.mk (Kd.S_below (by (with_reducible repeat (first | apply Kd.S_alloc | apply Kd.S_drewN | apply Kd.S_drew)); exact HO222.out) hb); have n2_ := Aside0.mk (below_step (by repeat (first | (with_reducible first | exact HB.out | apply below_alloc | apply pw_below_drewN | apply below_drew1) | exact HB.out)) hb); clear HO217; clear HO222; clear HB; have HO217 := n0_; have HO222 := n1_; have HB := n2_; clear n0_ n1_ n2_; (try clear hb); (try clear hb2); (try clear hk); (try clear hi); obtain ⟨Ao30, co30, eo30⟩ := Kd.S_slice HO217.out; subst eo30; obtain ⟨Ao31, co31, eo31⟩ := Kd.S_slice HO222.out; subst eo31)))
                go_meet
                case rel => exact ⟨_, (((t213.length : Int) != (t218.length : Int))), (by first | rfl | (simp; done) | (simp [*]; done)), H', ⟨by have := HJ2.out; first | omega | exact Nat.le_refl _⟩, ⟨by (with_reducible repeat (first | apply Kd.S_alloc | apply Kd.S_drewN | apply Kd.S_drew)); exact Kd.S_mono HO217.out (fun _ hk => hk.2)⟩, ⟨by (with_reducible repeat (first | apply Kd.S_alloc | apply Kd.S_drewN | apply Kd.S_drew)); exact Kd.S_mono HO222.out (fun _ hk => hk.2)⟩, ⟨by repeat (first | (with_reducible first | exact HB.out | apply below_alloc | apply pw_below_drewN | apply below_drew1) | exact HB.out)⟩⟩
              · rw [if_neg c28] at H
                have c28b0 : (t220 == 0) = false := beq_eq_false_iff_ne.mpr c28
                have c28b1 : (t220 != 0) = true := bne_iff_ne.mpr c28
                have H' := Aside0.mk H
                clear H
                go_wp2_with (first | (go_at_call 18; (with_reducible refine (railplanlaw3_awake.calls kj2  true _ ?side1 A25.out).mono ?_); (case side1 => exact ⟨hL_.out.below (by repeat (first | (with_reducible first | exact HB.out | apply below_alloc | apply pw_below_drewN | apply below_drew1) | exact HB.out))⟩); rintro e w32 ⟨rfl, hb⟩; have n0_ := Aside0.mk (Kd.S_below (by (with_reducible repeat (first | apply Kd.S_alloc | apply Kd.S_drewN | apply Kd.S_drew)); exact HO217.out) hb); have n1_ := Aside0.mk (Kd.S_below (by (with_reducible repeat (first | apply Kd.S_alloc | apply Kd.S_drewN | apply Kd.S_drew)); exact HO222.out) hb); have n2_ := Aside0.mk (below_step (by repeat (first | (with_reducible first | exact HB.out | apply below_alloc | apply pw_below_drewN | apply below_drew1) | exact HB.out)) hb); clear HO217; clear HO222; clear HB; have HO217 := n0_; have HO222 := n1_; have HB := n2_; clear n0_ n1_ n2_; (try clear hb); (try clear hb2); (try clear hk); (try clear hi)))
                repeat (go_quiet (first | (go_at_call 18; (with_reducible refine (railplanlaw3_awake.calls kj2  true _ ?side1 A25.out).mono ?_); (case side1 => exact ⟨hL_.out.below (by repeat (first | (with_reducible first | exact HB.out | apply below_alloc | apply pw_below_drewN | apply below_drew1) | exact HB.out))⟩); rintro e w32 ⟨rfl, hb⟩; have n0_ := Aside0.mk (Kd.S_below (by (with_reducible repeat (first | apply Kd.S_alloc | apply Kd.S_drewN | apply Kd.S_drew)); exact HO217.out) hb); have n1_ := Aside0.mk (Kd.S_below (by (with_reducible repeat (first | apply Kd.S_alloc | apply Kd.S_drewN | apply Kd.S_drew)); exact HO222.out) hb); have n2_ := Aside0.mk (below_step (by repeat (first | (with_reducible first | exact HB.out | apply below_alloc | apply pw_below_drewN | apply below_drew1) | exact HB.out)) hb); clear HO217; clear HO222; clear HB; have HO217 := n0_; have HO222 := n1_; have HB := n2_; clear n0_ n1_ n2_; (try clear hb); (try clear hb2); (try clear hk); (try clear hi))); try go_wp2_with (first | (go_at_call 18; (with_reducible refine (railplanlaw3_awake.calls kj2  true _ ?side1 A25.out).mono ?_); (case side1 => exact ⟨hL_.out.below (by repeat (first | (with_reducible first | exact HB.out | apply below_alloc | apply pw_below_drewN | apply below_drew1) | exact HB.out))⟩); rintro e w32 ⟨rfl, hb⟩; have n0_ := Aside0.mk (Kd.S_below (by (with_reducible repeat (first | apply Kd.S_alloc | apply Kd.S_drewN | apply Kd.S_drew)); exact HO217.out) hb); have n1_ := Aside0.mk (Kd.S_below (by (with_reducible repeat (first | apply Kd.S_alloc | apply Kd.S_drewN | apply Kd.S_drew)); exact HO222.out) hb); have n2_ := Aside0.mk (below_step (by repeat (first | (with_reducible first | exact HB.out | apply below_alloc | apply pw_below_drewN | apply below_drew1) | exact HB.out)) hb); clear HO217; clear HO222; clear HB; have HO217 := n0_; have HO222 := n1_; have HB := n2_; clear n0_ n1_ n2_; (try clear hb); (try clear hb2); (try clear hk); (try clear hi))))
                go_meet
                case rel => exact ⟨_, (true), (by first | rfl | (simp; done) | (simp [*]; done)), H', ⟨by have := HJ2.out; first | omega | exact Nat.le_refl _⟩, ⟨by (with_reducible repeat (first | apply Kd.S_alloc | apply Kd.S_drewN | apply Kd.S_drew)); exact Kd.S_mono HO217.out (fun _ hk => hk.2)⟩, ⟨by (with_reducible repeat (first | apply Kd.S_alloc | apply Kd.S_drewN | apply Kd.S_drew)); exact Kd.S_mono HO222.out (fun _ hk => hk.2)⟩, ⟨by repeat (first | (with_reducible first | exact HB.out | apply below_alloc | apply pw_below_drewN | apply below_drew1) | exact HB.out)⟩⟩
            · rw [if_neg c27] at H
              have c27b0 : (t215 == 0) = false := beq_eq_false_iff_ne.mpr c27
              have c27b1 : (t215 != 0) = true := bne_iff_ne.mpr c27
              (first | rw [c27b0] | (simp only [i64_w, i32_w]; rw [c27b0]) | rw [c27b1] | skip)
              have H' := Aside0.mk H
              clear H
              go_wp2_with (first | (go_at_call 18; (with_reducible refine (railplanlaw3_awake.calls kj2  true _ ?side1 A25.out).mono ?_); (case side1 => exact ⟨hL_.out.below (by repeat (first | (with_reducible first | exact HB.out | apply below_alloc | apply pw_below_drewN | apply below_drew1) | exact HB.out))⟩); rintro e w33 ⟨rfl, hb⟩; have n0_ := Aside0.mk (Kd.S_below (by (with_reducible repeat (first | apply Kd.S_alloc | apply Kd.S_drewN | apply Kd.S_drew)); exact HO217.out) hb); have n1_ := Aside0.mk (Kd.S_below (by (with_reducible repeat (first | apply Kd.S_alloc | apply Kd.S_drewN | apply Kd.S_drew)); exact HO222.out) hb); have n2_ := Aside0.mk (below_step (by repeat (first | (with_reducible first | exact HB.out | apply below_alloc | apply pw_below_drewN | apply below_drew1) | exact HB.out)) hb); clear HO217; clear HO222; clear HB; have HO217 := n0_; have HO222 := n1_; have HB := n2_; clear n0_ n1_ n2_; (try clear hb); (try clear hb2); (try clear hk); (try clear hi)))
              repeat (go_quiet (first | (go_at_call 18; (with_reducible refine (railplanlaw3_awake.calls kj2  true _ ?side1 A25.out).mono ?_); (case side1 => exact ⟨hL_.out.below (by repeat (first | (with_reducible first | exact HB.out | apply below_alloc | apply pw_below_drewN | apply below_drew1) | exact HB.out))⟩); rintro e w33 ⟨rfl, hb⟩; have n0_ := Aside0.mk (Kd.S_below (by (with_reducible repeat (first | apply Kd.S_alloc | apply Kd.S_drewN | apply Kd.S_drew)); exact HO217.out) hb); have n1_ := Aside0.mk (Kd.S_below (by (with_reducible repeat (first | apply Kd.S_alloc | apply Kd.S_drewN | apply Kd.S_drew)); exact HO222.out) hb); have n2_ := Aside0.mk (below_step (by repeat (first | (with_reducible first | exact HB.out | apply below_alloc | apply pw_below_drewN | apply below_drew1) | exact HB.out)) hb); clear HO217; clear HO222; clear HB; have HO217 := n0_; have HO222 := n1_; have HB := n2_; clear n0_ n1_ n2_; (try clear hb); (try clear hb2); (try clear hk); (try clear hi))); try go_wp2_with (first | (go_at_call 18; (with_reducible refine (railplanlaw3_awake.calls kj2  true _ ?side1 A25.out).mono ?_); (case side1 => exact ⟨hL_.out.below (by repeat (first | (with_reducible first | exact HB.out | apply below_alloc | apply pw_below_drewN | apply below_drew1) | exact HB.out))⟩); rintro e w33 ⟨rfl, hb⟩; have n0_ := Aside0.mk (Kd.S_below (by (with_reducible repeat (first | apply Kd.S_alloc | apply Kd.S_drewN | apply Kd.S_drew)); exact HO217.out) hb); have n1_ := Aside0.mk (Kd.S_below (by (with_reducible repeat (first | apply Kd.S_alloc | apply Kd.S_drewN | apply Kd.S_drew)); exact HO222.out) hb); have n2_ := Aside0.mk (below_step (by repeat (first | (with_reducible first | exact HB.out | apply below_alloc | apply pw_below_drewN | apply below_drew1) | exact HB.out)) hb); clear HO217; clear HO222; clear HB; have HO217 := n0_; have HO222 := n1_; have HB := n2_; clear n0_ n1_ n2_; (try clear hb); (try clear hb2); (try clear hk); (try clear hi))))
              go_meet
              case rel => exact ⟨_, (true), (by first | rfl | (simp; done) | (simp [*]; done)), H', ⟨by have := HJ2.out; first | omega | exact Nat.le_refl _⟩, ⟨by (with_reducible repeat (first | apply Kd.S_alloc | apply Kd.S_drewN | apply Kd.S_drew)); exact Kd.S_mono HO217.out (fun _ hk => hk.2)⟩, ⟨by (with_reducible repeat (first | apply Kd.S_alloc | apply Kd.S_drewN | apply Kd.S_drew)); exact Kd.S_mono HO222.out (fun _ hk => hk.2)⟩, ⟨by repeat (first | (with_reducible first | exact HB.out | apply below_alloc | apply pw_below_drewN | apply below_drew1) | exact HB.out)⟩⟩
          · replace c26 := Bool.eq_false_iff.mpr c26
            subst c26
            have H1 : (railplanlaw3_WordsCommentsAndSpace.j2 kj2 t213 t218 true) = some r := by rw [if_neg (show ¬ (false = true) by decide)] at H; exact H
            clear H
            have H := H1
            clear H1
            have H' := Aside0.mk H
            clear H
            go_wp2_with (first | (go_at_call 18; (with_reducible refine (railplanlaw3_awake.calls kj2  false _ ?side1 A25.out).mono ?_); (case side1 => exact ⟨hL_.out.below (by repeat (first | (with_reducible first | exact HB.out | apply below_alloc | apply pw_below_drewN | apply below_drew1) | exact HB.out))⟩); rintro e w34 ⟨rfl, hb⟩; have n0_ := Aside0.mk (Kd.S_below (by (with_reducible repeat (first | apply Kd.S_alloc | apply Kd.S_drewN | apply Kd.S_drew)); exact HO217.out) hb); have n1_ := Aside0.mk (Kd.S_below (by (with_reducible repeat (first | apply Kd.S_alloc | apply Kd.S_drewN | apply Kd.S_drew)); exact HO222.out) hb); have n2_ := Aside0.mk (below_step (by repeat (first | (with_reducible first | exact HB.out | apply below_alloc | apply pw_below_drewN | apply below_drew1) | exact HB.out)) hb); clear HO217; clear HO222; clear HB; have HO217 := n0_; have HO222 := n1_; have HB := n2_; clear n0_ n1_ n2_; (try clear hb); (try clear hb2); (try clear hk); (try clear hi)))
            repeat (go_quiet (first | (go_at_call 18; (with_reducible refine (railplanlaw3_awake.calls kj2  false _ ?side1 A25.out).mono ?_); (case side1 => exact ⟨hL_.out.below (by repeat (first | (with_reducible first | exact HB.out | apply below_alloc | apply pw_below_drewN | apply below_drew1) | exact HB.out))⟩); rintro e w34 ⟨rfl, hb⟩; have n0_ := Aside0.mk (Kd.S_below (by (with_reducible repeat (first | apply Kd.S_alloc | apply Kd.S_drewN | apply Kd.S_drew)); exact HO217.out) hb); have n1_ := Aside0.mk (Kd.S_below (by (with_reducible repeat (first | apply Kd.S_alloc | apply Kd.S_drewN | apply Kd.S_drew)); exact HO222.out) hb); have n2_ := Aside0.mk (below_step (by repeat (first | (with_reducible first | exact HB.out | apply below_alloc | apply pw_below_drewN | apply below_drew1) | exact HB.out)) hb); clear HO217; clear HO222; clear HB; have HO217 := n0_; have HO222 := n1_; have HB := n2_; clear n0_ n1_ n2_; (try clear hb); (try clear hb2); (try clear hk); (try clear hi))); try go_wp2_with (first | (go_at_call 18; (with_reducible refine (railplanlaw3_awake.calls kj2  false _ ?side1 A25.out).mono ?_); (case side1 => exact ⟨hL_.out.below (by repeat (first | (with_reducible first | exact HB.out | apply below_alloc | apply pw_below_drewN | apply below_drew1) | exact HB.out))⟩); rintro e w34 ⟨rfl, hb⟩; have n0_ := Aside0.mk (Kd.S_below (by (with_reducible repeat (first | apply Kd.S_alloc | apply Kd.S_drewN | apply Kd.S_drew)); exact HO217.out) hb); have n1_ := Aside0.mk (Kd.S_below (by (with_reducible repeat (first | apply Kd.S_alloc | apply Kd.S_drewN | apply Kd.S_drew)); exact HO222.out) hb); have n2_ := Aside0.mk (below_step (by repeat (first | (with_reducible first | exact HB.out | apply below_alloc | apply pw_below_drewN | apply below_drew1) | exact HB.out)) hb); clear HO217; clear HO222; clear HB; have HO217 := n0_; have HO222 := n1_; have HB := n2_; clear n0_ n1_ n2_; (try clear hb); (try clear hb2); (try clear hk); (try clear hi))))
            go_meet
            case rel => exact ⟨_, (true), (by first | rfl | (simp; done) | (simp [*]; done)), H', ⟨by have := HJ2.out; first | omega | exact Nat.le_refl _⟩, ⟨by (with_reducible repeat (first | apply Kd.S_alloc | apply Kd.S_drewN | apply Kd.S_drew)); exact Kd.S_mono HO217.out (fun _ hk => hk.2)⟩, ⟨by (with_reducible repeat (first | apply Kd.S_alloc | apply Kd.S_drewN | apply Kd.S_drew)); exact Kd.S_mono HO222.out (fun _ hk => hk.2)⟩, ⟨by repeat (first | (with_reducible first | exact HB.out | apply below_alloc | apply pw_below_drewN | apply below_drew1) | exact HB.out)⟩⟩
        case rest =>
          clear HC22
          try clear c1
          try clear c2
          try clear p2
          try clear q2
          try clear hx2
          try clear c4
          try clear c4b0
          try clear c4b1
          try clear c5
          try clear c5b0
          try clear c6
          try clear c6b0
          try clear p6
          try clear c8
          try clear c8b0
          try clear c9
          try clear c9b0
          try clear c10
          try clear c10b0
          try clear c10b1
          try clear c10b2
          try clear c11
          try clear c11b0
          try clear c11b1
          try clear c11b2
          try clear c12
          try clear c12b0
          try clear c12b1
          try clear c12b2
          try clear c13
          try clear c13b0
          try clear c13b1
          try clear c13b2
          try clear c14
          try clear c14b0
          try clear c14b1
          try clear c14b2
          try clear c15
          try clear c15b0
          try clear c15b1
          try clear c15b2
          try clear c16
          try clear c16b0
          try clear c16b1
          try clear c16b2
          try clear p21
          try clear q21
          try clear hx21
          try clear c26
          try clear c27
          try clear c27b0
          try clear c27b1
          try clear c28
          try clear c28b0
          try clear c28b1
          try clear hx211_0
          try clear hx212_0
          try clear p2
          try clear p211
          try clear p212
          try clear p6
          try clear q2
          try clear q211
          try clear q212
          obtain ⟨kq, x96_21, rfl, HA, HJ21, HO_11, HO_14, HB⟩ := hcut
          cases kq with
          | zero => exact absurd HA.out (by simp [railplanlaw3_WordsCommentsAndSpace.j2])
          | succ kj21 =>
            have H := HA.out
            clear HA
            simp only [railplanlaw3_WordsCommentsAndSpace.j2] at H
            by_cases c35 : x96_21 = true
            · subst c35
              have H1 : (some false) = some r := by rw [if_pos rfl] at H; exact H
              clear H
              have H := H1
              clear H1
              obtain rfl := Option.some.inj H
              exact absurd hr_.out (by decide)
            · replace c35 := Bool.eq_false_iff.mpr c35
              subst c35
              have H1 : (railplanlaw3_WordsCommentsAndSpace.l1 kj21 t213 t218 (t213.length : Int) 0) = some r := by rw [if_neg (show ¬ (false = true) by decide)] at H; exact H
              clear H
              have H := H1
              clear H1
              have H' := Aside0.mk H
              clear H
              obtain ⟨Ao36, co36, eo36⟩ := Kd.S_slice HO_11.out
              subst eo36
              go_wp2
              repeat (go_quiet (fail); try go_wp2)
              go_loopg [99] kj21 (fun kq v99 w' => ∃ (x99_3 : Int), v99 = .int .i64 x99_3 ∧ Aside0 (railplanlaw3_WordsCommentsAndSpace.l1 kq t213 t218 (t213.length : Int) x99_3 = some r) ∧ Aside0 (kq ≤ kj21) ∧ Aside0 (Kd.S (Kd.slice 32 k32) 33 w' w.heap.size (fun k_ => some k_ ≠ (v221 : Value).ownBlock) (.slice Ao36 t213.length co36) t213) ∧ Aside0 (Kd.S (Kd.slice 32 k32) 33 w' w.heap.size (fun k_ => some k_ ≠ ((.slice Ao36 t213.length co36) : Value).ownBlock) v221 t218) ∧ Aside0 (Below w.heap.size w w'))
              case atStart => exact ⟨(0), (by first | rfl | (simp; done) | (simp [*]; done)), H', ⟨Nat.le_refl _⟩, ⟨by (with_reducible repeat (first | apply Kd.S_alloc | apply Kd.S_drewN | apply Kd.S_drew)); exact HO_11.out⟩, ⟨by (with_reducible repeat (first | apply Kd.S_alloc | apply Kd.S_drewN | apply Kd.S_drew)); exact HO_14.out⟩, ⟨by repeat (first | (with_reducible first | exact HB.out | apply below_alloc | apply pw_below_drewN | apply below_drew1) | exact HB.out)⟩⟩
              case round =>
                clear H'
                try clear c1
                try clear c2
                try clear p2
                try clear q2
                try clear hx2
                try clear c3
                try clear c4
                try clear c4b0
                try clear c4b1
                try clear c5
                try clear c5b0
                try clear c6
                try clear c6b0
                try clear p6
                try clear c8
                try clear c8b0
                try clear c9
                try clear c9b0
                try clear c10
                try clear c10b0
                try clear c10b1
                try clear c10b2
                try clear c11
                try clear c11b0
                try clear c11b1
                try clear c11b2
                try clear c12
                try clear c12b0
                try clear c12b1
                try clear c12b2
                try clear c13
                try clear c13b0
                try clear c13b1
                try clear c13b2
                try clear c14
                try clear c14b0
                try clear c14b1
                try clear c14b2
                try clear c15
                try clear c15b0
                try clear c15b1
                try clear c15b2
                try clear c16
                try clear c16b0
                try clear c16b1
                try clear c16b2
                try clear p21
                try clear q21
                try clear hx21
                try clear c26
                try clear c27
                try clear c27b0
                try clear c27b1
                try clear c28
                try clear c28b0
                try clear c28b1
                try clear c35
                try clear hx211_0
                try clear hx212_0
                try clear p2
                try clear p21
                try clear p211
                try clear p212
                try clear p6
                try clear q2
                try clear q21
                try clear q211
                try clear q212
                obtain ⟨x99_3, rfl, HA, HK3, HO_11, HO_14, HB⟩ := hrel
                cases gk with
                | zero => exact absurd HA.out (by simp [railplanlaw3_WordsCommentsAndSpace.l1])
                | succ k3 =>
                  have H := HA.out
                  clear HA
                  simp only [railplanlaw3_WordsCommentsAndSpace.l1] at H
                  by_cases c37 : x99_3 < (t213.length : Int)
                  · rw [if_pos c37] at H
                    have c37b0 : decide (x99_3 < (t213.length : Int)) = true := decide_eq_true c37
                    clear c37
                    by_cases c38 : 0 ≤ x99_3
                    · rw [if_pos c38] at H
                      have c38b0 : decide (0 ≤ x99_3) = true := decide_eq_true c38
                      clear c38
                      by_cases c39 : x99_3 < (t213.length : Int)
                      · rw [if_pos c39] at H
                        have c39b0 : decide (x99_3 < (t213.length : Int)) = true := decide_eq_true c39
                        clear c39
                        by_cases c40 : ((rd_L3 t213 x99_3).length : Int) = 1
                        · rw [if_pos c40] at H
                          have c40b0 : (((rd_L3 t213 x99_3).length : Int) == 1) = true := beq_iff_eq.mpr c40
                          have c40b1 : (((rd_L3 t213 x99_3).length : Int) != 1) = false := bne_eq_false_iff_eq.mpr c40
                          clear c40
                          by_cases c41 : x99_3 < (t218.length : Int)
                          · rw [if_pos c41] at H
                            have c41b0 : decide (x99_3 < (t218.length : Int)) = true := decide_eq_true c41
                            clear c41
                            by_cases c42 : ((rd_L3 t218 x99_3).length : Int) = 1
                            · rw [if_pos c42] at H
                              have c42b0 : (((rd_L3 t218 x99_3).length : Int) == 1) = true := beq_iff_eq.mpr c42
                              have c42b1 : (((rd_L3 t218 x99_3).length : Int) != 1) = false := bne_eq_false_iff_eq.mpr c42
                              clear c42
                              by_cases c43 : 0 < ((rd_L3 t213 x99_3).length : Int)
                              · rw [if_pos c43] at H
                                have c43b0 : decide (0 < ((rd_L3 t213 x99_3).length : Int)) = true := decide_eq_true c43
                                have c43b1 : decide (0 < (rd_L3 t213 x99_3).length) = true := decide_eq_true (by omega)
                                clear c43
                                by_cases c44 : 0 < ((rd_L3 t218 x99_3).length : Int)
                                · rw [if_pos c44] at H
                                  have c44b0 : decide (0 < ((rd_L3 t218 x99_3).length : Int)) = true := decide_eq_true c44
                                  have c44b1 : decide (0 < (rd_L3 t218 x99_3).length) = true := decide_eq_true (by omega)
                                  clear c44
                                  by_cases c45 : ((rd_T32 (rd_L3 t213 x99_3) 0).f0).toList = ((rd_T32 (rd_L3 t218 x99_3) 0).f0).toList
                                  · rw [if_pos c45] at H
                                    have c45b0 : (((rd_T32 (rd_L3 t213 x99_3) 0).f0).toList == ((rd_T32 (rd_L3 t218 x99_3) 0).f0).toList) = true := beq_iff_eq.mpr c45
                                    have c45b1 : (((rd_T32 (rd_L3 t213 x99_3) 0).f0).toList != ((rd_T32 (rd_L3 t218 x99_3) 0).f0).toList) = false := bne_eq_false_iff_eq.mpr c45
                                    clear c45
                                    by_cases c46 : ((rd_T32 (rd_L3 t218 x99_3) 0).f1) = (wrap64 ((wrap64 (2 * x99_3)) + 1))
                                    · rw [if_pos c46] at H
                                      have c46b0 : (((rd_T32 (rd_L3 t218 x99_3) 0).f1) == (wrap64 ((wrap64 (2 * x99_3)) + 1))) = true := beq_iff_eq.mpr c46
                                      have c46b1 : (((rd_T32 (rd_L3 t218 x99_3) 0).f1) != (wrap64 ((wrap64 (2 * x99_3)) + 1))) = false := bne_eq_false_iff_eq.mpr c46
                                      clear c46
                                      by_cases c47 : ((rd_T32 (rd_L3 t218 x99_3) 0).f2) = 3
                                      · rw [if_pos c47] at H
                                        have c47b0 : (((rd_T32 (rd_L3 t218 x99_3) 0).f2) == 3) = true := beq_iff_eq.mpr c47
                                        have c47b1 : (((rd_T32 (rd_L3 t218 x99_3) 0).f2) != 3) = false := bne_eq_false_iff_eq.mpr c47
                                        clear c47
                                        have H' := Aside0.mk H
                                        clear H
                                        have p224 : 0 ≤ (x99_3 : Int) := of_decide_eq_true (by first | (with_reducible assumption) | assumption)
                                        have q224 : x99_3 < (t213.length : Int) := of_decide_eq_true (by first | (with_reducible assumption) | assumption)
                                        obtain ⟨ad224, A224_0, c224_0, e224, hx224_0, hl224_0, hi224_0⟩ := at_L3 (Kd.S_reads' HO_11.out).2.2 x99_3 p224 q224
                                        cases e224
                                        obtain ⟨ce224, hce224, hMe224, hcc224⟩ := Kd.S_get HO_11.out [] x99_3 p224 (by first | exact q224 | exact of_decide_eq_true (by first | (with_reducible assumption) | assumption) | (have e_ := (Kd.S_reads' HO_11.out).1; omega))
                                        obtain ⟨ve224_0, rfl, ge224_0⟩ := hMe224
                                        have hv224_0 := hcc224 0 _ rfl
                                        rw [Nat.add_zero, show ((Kd.slice 32 k32)).sz = 1 from rfl, Nat.mul_one] at hv224_0
                                        replace hv224_0 := Option.some.inj (hv224_0.symm.trans hx224_0)
                                        rw [hv224_0] at ge224_0
                                        have HL224_0 := Aside0.mk (show Kd.R k32 32 _ _ _ _ (rd_L3 t213 x99_3) from ge224_0)
                                        clear hv224_0 ge224_0
                                        clear hcc224 hce224
                                        have HR224_0 := Aside0.mk hi224_0
                                        have HC224_0 := Aside0.mk hl224_0
                                        clear hi224_0 hl224_0
                                        replace p224 := eq_true p224
                                        replace q224 := eq_true q224
                                        obtain ⟨Ao48, co48, eo48⟩ := Kd.S_slice HO_14.out
                                        subst eo48
                                        have p225 : 0 ≤ (x99_3 : Int) := of_decide_eq_true (by first | (with_reducible assumption) | assumption)
                                        have q225 : x99_3 < (t218.length : Int) := of_decide_eq_true (by first | (with_reducible assumption) | assumption)
                                        obtain ⟨ad225, A225_0, c225_0, e225, hx225_0, hl225_0, hi225_0⟩ := at_L3 (Kd.S_reads' HO_14.out).2.2 x99_3 p225 q225
                                        cases e225
                                        obtain ⟨ce225, hce225, hMe225, hcc225⟩ := Kd.S_get HO_14.out [] x99_3 p225 (by first | exact q225 | exact of_decide_eq_true (by first | (with_reducible assumption) | assumption) | (have e_ := (Kd.S_reads' HO_14.out).1; omega))
                                        obtain ⟨ve225_0, rfl, ge225_0⟩ := hMe225
                                        have hv225_0 := hcc225 0 _ rfl
                                        rw [Nat.add_zero, show ((Kd.slice 32 k32)).sz = 1 from rfl, Nat.mul_one] at hv225_0
                                        replace hv225_0 := Option.some.inj (hv225_0.symm.trans hx225_0)
                                        rw [hv225_0] at ge225_0
                                        have HL225_0 := Aside0.mk (show Kd.R k32 32 _ _ _ _ (rd_L3 t218 x99_3) from ge225_0)
                                        clear hv225_0 ge225_0
                                        clear hcc225 hce225
                                        have HR225_0 := Aside0.mk hi225_0
                                        have HC225_0 := Aside0.mk hl225_0
                                        clear hi225_0 hl225_0
                                        replace p225 := eq_true p225
                                        replace q225 := eq_true q225
                                        have p226 : 0 ≤ (x99_3 : Int) := of_decide_eq_true (by first | (with_reducible assumption) | assumption)
                                        have q226 : x99_3 < (t213.length : Int) := of_decide_eq_true (by first | (with_reducible assumption) | assumption)
                                        obtain ⟨ad226, A226_0, c226_0, e226, hx226_0, hl226_0, hi226_0⟩ := at_L3 (Kd.S_reads' HO_11.out).2.2 x99_3 p226 q226
                                        obtain rfl : ad224 = ad226 := (by injection e226)
                                        obtain ⟨ce226, hce226, hMe226, hcc226⟩ := Kd.S_get HO_11.out [] x99_3 p226 (by first | exact q226 | exact of_decide_eq_true (by first | (with_reducible assumption) | assumption) | (have e_ := (Kd.S_reads' HO_11.out).1; omega))
                                        obtain ⟨ve226_0, rfl, ge226_0⟩ := hMe226
                                        have hv226_0 := hcc226 0 _ rfl
                                        rw [Nat.add_zero, show ((Kd.slice 32 k32)).sz = 1 from rfl, Nat.mul_one] at hv226_0
                                        replace hv226_0 := Option.some.inj (hv226_0.symm.trans hx226_0)
                                        rw [hv226_0] at ge226_0
                                        have HL226_0 := Aside0.mk (show Kd.R k32 32 _ _ _ _ (rd_L3 t213 x99_3) from ge226_0)
                                        clear hv226_0 ge226_0
                                        clear hcc226 hce226
                                        have HR226_0 := Aside0.mk hi226_0
                                        have HC226_0 := Aside0.mk hl226_0
                                        clear hi226_0 hl226_0
                                        replace p226 := eq_true p226
                                        replace q226 := eq_true q226
                                        have ea_ := Option.some.inj (hx224_0.symm.trans hx226_0)
                                        injection ea_ with ea_ en_ ec_
                                        subst ea_
                                        subst ec_
                                        clear en_
                                        have p227 : 0 ≤ (0 : Int) := (by omega)
                                        have q227 : 0 < ((rd_L3 t213 x99_3).length : Int) := of_decide_eq_true (by first | (with_reducible assumption) | assumption)
                                        obtain ⟨ad227, e227, hx227_0, hx227_1, hx227_2⟩ := at_T32 (by repeat (first | (with_reducible exact HR226_0.out) | (with_reducible refine Kd.C_alloc ?_ _) | (with_reducible refine Kd.C_drewN ?_ _) | (with_reducible refine Kd.C_drew ?_) | exact HR226_0.out)) 0 p227 q227
                                        cases e227
                                        have qi227 : (0 < (rd_L3 t213 x99_3).length) = True := eq_true (by omega)
                                        (try rw [show ((0 : Int)).toNat = 0 from rfl] at hx227_0)
                                        (try rw [show 0 * 3 = 0 from rfl] at hx227_0)
                                        (try rw [Addr.add_zero'] at hx227_0)
                                        (try rw [show ((0 : Int)).toNat = 0 from rfl] at hx227_1)
                                        (try rw [show 0 * 3 = 0 from rfl] at hx227_1)
                                        (try rw [Addr.add_zero'] at hx227_1)
                                        (try rw [show ((0 : Int)).toNat = 0 from rfl] at hx227_2)
                                        (try rw [show 0 * 3 = 0 from rfl] at hx227_2)
                                        (try rw [Addr.add_zero'] at hx227_2)
                                        replace p227 := eq_true p227
                                        replace q227 := eq_true q227
                                        have p228 : 0 ≤ (x99_3 : Int) := of_decide_eq_true (by first | (with_reducible assumption) | assumption)
                                        have q228 : x99_3 < (t218.length : Int) := of_decide_eq_true (by first | (with_reducible assumption) | assumption)
                                        obtain ⟨ad228, A228_0, c228_0, e228, hx228_0, hl228_0, hi228_0⟩ := at_L3 (Kd.S_reads' HO_14.out).2.2 x99_3 p228 q228
                                        obtain rfl : ad225 = ad228 := (by injection e228)
                                        obtain ⟨ce228, hce228, hMe228, hcc228⟩ := Kd.S_get HO_14.out [] x99_3 p228 (by first | exact q228 | exact of_decide_eq_true (by first | (with_reducible assumption) | assumption) | (have e_ := (Kd.S_reads' HO_14.out).1; omega))
                                        obtain ⟨ve228_0, rfl, ge228_0⟩ := hMe228
                                        have hv228_0 := hcc228 0 _ rfl
                                        rw [Nat.add_zero, show ((Kd.slice 32 k32)).sz = 1 from rfl, Nat.mul_one] at hv228_0
                                        replace hv228_0 := Option.some.inj (hv228_0.symm.trans hx228_0)
                                        rw [hv228_0] at ge228_0
                                        have HL228_0 := Aside0.mk (show Kd.R k32 32 _ _ _ _ (rd_L3 t218 x99_3) from ge228_0)
                                        clear hv228_0 ge228_0
                                        clear hcc228 hce228
                                        have HR228_0 := Aside0.mk hi228_0
                                        have HC228_0 := Aside0.mk hl228_0
                                        clear hi228_0 hl228_0
                                        replace p228 := eq_true p228
                                        replace q228 := eq_true q228
                                        have ea_ := Option.some.inj (hx225_0.symm.trans hx228_0)
                                        injection ea_ with ea_ en_ ec_
                                        subst ea_
                                        subst ec_
                                        clear en_
                                        have p229 : 0 ≤ (0 : Int) := (by omega)
                                        have q229 : 0 < ((rd_L3 t218 x99_3).length : Int) := of_decide_eq_true (by first | (with_reducible assumption) | assumption)
                                        obtain ⟨ad229, e229, hx229_0, hx229_1, hx229_2⟩ := at_T32 (by repeat (first | (with_reducible exact HR228_0.out) | (with_reducible refine Kd.C_alloc ?_ _) | (with_reducible refine Kd.C_drewN ?_ _) | (with_reducible refine Kd.C_drew ?_) | exact HR228_0.out)) 0 p229 q229
                                        cases e229
                                        have qi229 : (0 < (rd_L3 t218 x99_3).length) = True := eq_true (by omega)
                                        (try rw [show ((0 : Int)).toNat = 0 from rfl] at hx229_0)
                                        (try rw [show 0 * 3 = 0 from rfl] at hx229_0)
                                        (try rw [Addr.add_zero'] at hx229_0)
                                        (try rw [show ((0 : Int)).toNat = 0 from rfl] at hx229_1)
                                        (try rw [show 0 * 3 = 0 from rfl] at hx229_1)
                                        (try rw [Addr.add_zero'] at hx229_1)
                                        (try rw [show ((0 : Int)).toNat = 0 from rfl] at hx229_2)
                                        (try rw [show 0 * 3 = 0 from rfl] at hx229_2)
                                        (try rw [Addr.add_zero'] at hx229_2)
                                        replace p229 := eq_true p229
                                        replace q229 := eq_true q229
                                        have p230 : 0 ≤ (x99_3 : Int) := of_decide_eq_true (by first | (with_reducible assumption) | assumption)
                                        have q230 : x99_3 < (t218.length : Int) := of_decide_eq_true (by first | (with_reducible assumption) | assumption)
                                        obtain ⟨ad230, A230_0, c230_0, e230, hx230_0, hl230_0, hi230_0⟩ := at_L3 (Kd.S_reads' HO_14.out).2.2 x99_3 p230 q230
                                        obtain rfl : ad225 = ad230 := (by injection e230)
                                        obtain ⟨ce230, hce230, hMe230, hcc230⟩ := Kd.S_get HO_14.out [] x99_3 p230 (by first | exact q230 | exact of_decide_eq_true (by first | (with_reducible assumption) | assumption) | (have e_ := (Kd.S_reads' HO_14.out).1; omega))
                                        obtain ⟨ve230_0, rfl, ge230_0⟩ := hMe230
                                        have hv230_0 := hcc230 0 _ rfl
                                        rw [Nat.add_zero, show ((Kd.slice 32 k32)).sz = 1 from rfl, Nat.mul_one] at hv230_0
                                        replace hv230_0 := Option.some.inj (hv230_0.symm.trans hx230_0)
                                        rw [hv230_0] at ge230_0
                                        have HL230_0 := Aside0.mk (show Kd.R k32 32 _ _ _ _ (rd_L3 t218 x99_3) from ge230_0)
                                        clear hv230_0 ge230_0
                                        clear hcc230 hce230
                                        have HR230_0 := Aside0.mk hi230_0
                                        have HC230_0 := Aside0.mk hl230_0
                                        clear hi230_0 hl230_0
                                        replace p230 := eq_true p230
                                        replace q230 := eq_true q230
                                        have ea_ := Option.some.inj (hx225_0.symm.trans hx230_0)
                                        injection ea_ with ea_ en_ ec_
                                        subst ea_
                                        subst ec_
                                        clear en_
                                        have p231 : 0 ≤ (0 : Int) := (by omega)
                                        have q231 : 0 < ((rd_L3 t218 x99_3).length : Int) := of_decide_eq_true (by first | (with_reducible assumption) | assumption)
                                        obtain ⟨ad231, e231, hx231_0, hx231_1, hx231_2⟩ := at_T32 (by repeat (first | (with_reducible exact HR230_0.out) | (with_reducible refine Kd.C_alloc ?_ _) | (with_reducible refine Kd.C_drewN ?_ _) | (with_reducible refine Kd.C_drew ?_) | exact HR230_0.out)) 0 p231 q231
                                        cases e231
                                        have qi231 : (0 < (rd_L3 t218 x99_3).length) = True := eq_true (by omega)
                                        (try rw [show ((0 : Int)).toNat = 0 from rfl] at hx231_0)
                                        (try rw [show 0 * 3 = 0 from rfl] at hx231_0)
                                        (try rw [Addr.add_zero'] at hx231_0)
                                        (try rw [show ((0 : Int)).toNat = 0 from rfl] at hx231_1)
                                        (try rw [show 0 * 3 = 0 from rfl] at hx231_1)
                                        (try rw [Addr.add_zero'] at hx231_1)
                                        (try rw [show ((0 : Int)).toNat = 0 from rfl] at hx231_2)
                                        (try rw [show 0 * 3 = 0 from rfl] at hx231_2)
                                        (try rw [Addr.add_zero'] at hx231_2)
                                        replace p231 := eq_true p231
                                        replace q231 := eq_true q231
                                        have p232 : 0 ≤ (x99_3 : Int) := of_decide_eq_true (by first | (with_reducible assumption) | assumption)
                                        have q232 : x99_3 < (t218.length : Int) := of_decide_eq_true (by first | (with_reducible assumption) | assumption)
                                        obtain ⟨ad232, A232_0, c232_0, e232, hx232_0, hl232_0, hi232_0⟩ := at_L3 (Kd.S_reads' HO_14.out).2.2 x99_3 p232 q232
                                        obtain rfl : ad225 = ad232 := (by injection e232)
                                        obtain ⟨ce232, hce232, hMe232, hcc232⟩ := Kd.S_get HO_14.out [] x99_3 p232 (by first | exact q232 | exact of_decide_eq_true (by first | (with_reducible assumption) | assumption) | (have e_ := (Kd.S_reads' HO_14.out).1; omega))
                                        obtain ⟨ve232_0, rfl, ge232_0⟩ := hMe232
                                        have hv232_0 := hcc232 0 _ rfl
                                        rw [Nat.add_zero, show ((Kd.slice 32 k32)).sz = 1 from rfl, Nat.mul_one] at hv232_0
                                        replace hv232_0 := Option.some.inj (hv232_0.symm.trans hx232_0)
                                        rw [hv232_0] at ge232_0
                                        have HL232_0 := Aside0.mk (show Kd.R k32 32 _ _ _ _ (rd_L3 t218 x99_3) from ge232_0)
                                        clear hv232_0 ge232_0
                                        clear hcc232 hce232
                                        have HR232_0 := Aside0.mk hi232_0
                                        have HC232_0 := Aside0.mk hl232_0
                                        clear hi232_0 hl232_0
                                        replace p232 := eq_true p232
                                        replace q232 := eq_true q232
                                        have ea_ := Option.some.inj (hx225_0.symm.trans hx232_0)
                                        injection ea_ with ea_ en_ ec_
                                        subst ea_
                                        subst ec_
                                        clear en_
                                        have p233 : 0 ≤ (0 : Int) := (by omega)
                                        have q233 : 0 < ((rd_L3 t218 x99_3).length : Int) := of_decide_eq_true (by first | (with_reducible assumption) | assumption)
                                        obtain ⟨ad233, e233, hx233_0, hx233_1, hx233_2⟩ := at_T32 (by repeat (first | (with_reducible exact HR232_0.out) | (with_reducible refine Kd.C_alloc ?_ _) | (with_reducible refine Kd.C_drewN ?_ _) | (with_reducible refine Kd.C_drew ?_) | exact HR232_0.out)) 0 p233 q233
                                        cases e233
                                        have qi233 : (0 < (rd_L3 t218 x99_3).length) = True := eq_true (by omega)
                                        (try rw [show ((0 : Int)).toNat = 0 from rfl] at hx233_0)
                                        (try rw [show 0 * 3 = 0 from rfl] at hx233_0)
                                        (try rw [Addr.add_zero'] at hx233_0)
                                        (try rw [show ((0 : Int)).toNat = 0 from rfl] at hx233_1)
                                        (try rw [show 0 * 3 = 0 from rfl] at hx233_1)
                                        (try rw [Addr.add_zero'] at hx233_1)
                                        (try rw [show ((0 : Int)).toNat = 0 from rfl] at hx233_2)
                                        (try rw [show 0 * 3 = 0 from rfl] at hx233_2)
                                        (try rw [Addr.add_zero'] at hx233_2)
                                        replace p233 := eq_true p233
                                        replace q233 := eq_true q233
                                        go_wp2
                                        repeat (go_quiet (fail); try go_wp2)
                                        go_roundg k3
                                        case measure => have := HJ2.out; have := HJ21.out; have := HK3.out; omega
                                        case rel => exact ⟨(wrap64 (x99_3 + 1)), (by first | rfl | (simp; done) | (simp [*]; done)), H', ⟨by have := HJ2.out; have := HJ21.out; have := HK3.out; omega⟩, ⟨by (with_reducible repeat (first | apply Kd.S_alloc | apply Kd.S_drewN | apply Kd.S_drew)); exact HO_11.out⟩, ⟨by (with_reducible repeat (first | apply Kd.S_alloc | apply Kd.S_drewN | apply Kd.S_drew)); exact HO_14.out⟩, ⟨by repeat (first | (with_reducible first | exact HB.out | apply below_alloc | apply pw_below_drewN | apply below_drew1) | exact HB.out)⟩⟩
                                      · rw [if_neg c47] at H
                                        have c47b0 : (((rd_T32 (rd_L3 t218 x99_3) 0).f2) == 3) = false := beq_eq_false_iff_ne.mpr c47
                                        have c47b1 : (((rd_T32 (rd_L3 t218 x99_3) 0).f2) != 3) = true := bne_iff_ne.mpr c47
                                        obtain rfl := Option.some.inj H
                                        exact absurd hr_.out (by decide)
                                    · rw [if_neg c46] at H
                                      have c46b0 : (((rd_T32 (rd_L3 t218 x99_3) 0).f1) == (wrap64 ((wrap64 (2 * x99_3)) + 1))) = false := beq_eq_false_iff_ne.mpr c46
                                      have c46b1 : (((rd_T32 (rd_L3 t218 x99_3) 0).f1) != (wrap64 ((wrap64 (2 * x99_3)) + 1))) = true := bne_iff_ne.mpr c46
                                      obtain rfl := Option.some.inj H
                                      exact absurd hr_.out (by decide)
                                  · rw [if_neg c45] at H
                                    have c45b0 : (((rd_T32 (rd_L3 t213 x99_3) 0).f0).toList == ((rd_T32 (rd_L3 t218 x99_3) 0).f0).toList) = false := beq_eq_false_iff_ne.mpr c45
                                    have c45b1 : (((rd_T32 (rd_L3 t213 x99_3) 0).f0).toList != ((rd_T32 (rd_L3 t218 x99_3) 0).f0).toList) = true := bne_iff_ne.mpr c45
                                    obtain rfl := Option.some.inj H
                                    exact absurd hr_.out (by decide)
                                · rw [if_neg c44] at H
                                  exact absurd H (by simp)
                              · rw [if_neg c43] at H
                                exact absurd H (by simp)
                            · rw [if_neg c42] at H
                              have c42b0 : (((rd_L3 t218 x99_3).length : Int) == 1) = false := beq_eq_false_iff_ne.mpr c42
                              have c42b1 : (((rd_L3 t218 x99_3).length : Int) != 1) = true := bne_iff_ne.mpr c42
                              obtain rfl := Option.some.inj H
                              exact absurd hr_.out (by decide)
                          · rw [if_neg c41] at H
                            exact absurd H (by simp)
                        · rw [if_neg c40] at H
                          have c40b0 : (((rd_L3 t213 x99_3).length : Int) == 1) = false := beq_eq_false_iff_ne.mpr c40
                          have c40b1 : (((rd_L3 t213 x99_3).length : Int) != 1) = true := bne_iff_ne.mpr c40
                          obtain rfl := Option.some.inj H
                          exact absurd hr_.out (by decide)
                      · rw [if_neg c39] at H
                        exact absurd H (by simp)
                    · rw [if_neg c38] at H
                      exact absurd H (by simp)
                  · rw [if_neg c37] at H
                    have c37b0 : decide (x99_3 < (t213.length : Int)) = false := decide_eq_false c37
                    clear c37
                    obtain rfl := Option.some.inj H
                    simp only [Option.some.injEq, Prod.mk.injEq] at H
                    obtain ⟨rfl⟩ := H
                    go_wp2
                    repeat (go_quiet (fail); try go_wp2)
                    go_ret
                    exact ⟨by first | rfl | (simp [errW_none, errW_some] <;> rfl) | (simp [*, errW_none, errW_some] <;> rfl), by repeat (first | (with_reducible first | exact HB.out | apply below_alloc | apply pw_below_drewN | apply below_drew1) | exact HB.out)⟩

def railplanlaw3_WordsCommentsAndSpace.Pure : Prop := ∀ (l0 : List Int) (a1 : ByteArray), (fun xs : List Int => xs.length * 1 ≤ 140737488351232 ∧ xs.length ≤ maxLen ∧ ∀ x ∈ xs, (fun x : Int => (Lit.int .u8 x).wf = true) x) l0 → (fun x : ByteArray => x.size ≤ 140737488351232) a1 → ∃ k, railplanlaw3_WordsCommentsAndSpace.f k l0 a1 = some true

end Go.Proofs.YtnmbljpifadipaaDoor.X
