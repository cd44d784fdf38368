/- Written by a program of this claim. Proved: each Go function named below, called with any arguments at which its Lean function answers, returns that answer; or, of a law, its given statement. -/
import Derived.Test.YtnmbljpifadipaaDoorX0
import Derived.Test.YtnmbljpifadipaaDoorX3
import Derived.Test.YtnmbljpifadipaaDoorQJoin
import Derived.Test.YtnmbljpifadipaaDoorQLines
namespace Go.Proofs.YtnmbljpifadipaaDoor.X
open Go.RowKit Go.Proofs.YtnmbljpifadipaaDoorW Go.Proofs.YtnmbljpifadipaaDoorW.PrintWords Go.Proofs.YtnmbljpifadipaaDoorW.PrintLast Go.Proofs.YtnmbljpifadipaaDoorW.PrintMore
attribute [local go_sem] max2_int min2_int max_two min_two max_three min_three max_four min_four   -- for this text's walks alone
set_option linter.unusedVariables false
set_option linter.unusedSimpArgs false

/-! ### railplanlaw3_WordsRoundTrip: function 12 -/
mutual
def railplanlaw3_WordsRoundTrip.l0 : Nat → List Int → Int → List (List ByteArray) → Int → Option (Bool)
  | 0, _, _, _, _ => none
  | k + 1, x0, x1, x5, x6 => if x6 < (x0.length : Int) then (railplanlaw3_WordsRoundTrip.j1 k x0 x1 x5 x6 (decide (x6 < 60))) else (railplanlaw3_WordsRoundTrip.j1 k x0 x1 x5 x6 false)
def railplanlaw3_WordsRoundTrip.j1 : Nat → List Int → Int → List (List ByteArray) → Int → Bool → Option (Bool)
  | 0, _, _, _, _, _ => none
  | k + 1, x0, x1, x5, x6, x20 => if x20 = true then ((some (([(⟨#[120]⟩ : ByteArray), (⟨#[45, 49]⟩ : ByteArray), (⟨#[46, 46]⟩ : ByteArray), (⟨#[126, 125]⟩ : ByteArray), (⟨#[78, 97, 109, 101, 95, 49]⟩ : ByteArray), (⟨#[33, 34, 36]⟩ : ByteArray)] : List ByteArray) : List ByteArray)).bind fun y272 => (if 0 ≤ x6 then (if x6 < (x0.length : Int) then (if 0 ≤ (Int.tmod (rd x0 x6) 6) then (if (Int.tmod (rd x0 x6) 6) < (y272.length : Int) then (if (wrap64 (1 + (wrap64 (Int.tmod x1 7)))) = 0 then (none) else (if (Int.tmod x6 (wrap64 (1 + (wrap64 (Int.tmod x1 7))))) = 0 then (if x5.length < 5864062014805 then ((some (x5 ++ [([] : List ByteArray)] : List (List ByteArray))).bind fun y277 => (if 0 ≤ (wrap64 ((y277.length : Int) - 1)) then (if (wrap64 ((y277.length : Int) - 1)) < (y277.length : Int) then (if (rd_L5 y277 (wrap64 ((y277.length : Int) - 1))).length < 8796093022208 then (railplanlaw3_WordsRoundTrip.l0 k x0 x1 (y277.set ((wrap64 ((y277.length : Int) - 1)) : Int).toNat ((rd_L5 y277 (wrap64 ((y277.length : Int) - 1))) ++ [rdOf ByteArray.empty y272 (Int.tmod (rd x0 x6) 6)])) (wrap64 (x6 + 1))) else (none)) else (none)) else (none))) else (none)) else (if 0 ≤ (wrap64 ((x5.length : Int) - 1)) then (if (wrap64 ((x5.length : Int) - 1)) < (x5.length : Int) then (if (rd_L5 x5 (wrap64 ((x5.length : Int) - 1))).length < 8796093022208 then (railplanlaw3_WordsRoundTrip.l0 k x0 x1 (x5.set ((wrap64 ((x5.length : Int) - 1)) : Int).toNat ((rd_L5 x5 (wrap64 ((x5.length : Int) - 1))) ++ [rdOf ByteArray.empty y272 (Int.tmod (rd x0 x6) 6)])) (wrap64 (x6 + 1))) else (none)) else (none)) else (none)))) else (none)) else (none)) else (none)) else (none))) else ((words_Join.f k x5).bind fun t290 => ((words_Lines.f k t290).bind fun bt291 => ((railplanlaw3_awake.f k).bind fun t296 => (if t296 = true then (if bt291.2.2 = 0 then (railplanlaw3_WordsRoundTrip.j2 k x5 bt291.1 ((bt291.1.length : Int) != (x5.length : Int))) else (railplanlaw3_WordsRoundTrip.j2 k x5 bt291.1 true)) else (railplanlaw3_WordsRoundTrip.j2 k x5 bt291.1 true)))))
def railplanlaw3_WordsRoundTrip.j2 : Nat → List (List ByteArray) → List (List (S32)) → Bool → Option (Bool)
  | 0, _, _, _ => none
  | k + 1, x5, x8, x74 => if x74 = true then (some false) else (railplanlaw3_WordsRoundTrip.l1 k x5 x8 (x8.length : Int) 0)
def railplanlaw3_WordsRoundTrip.l1 : Nat → List (List ByteArray) → List (List (S32)) → Int → Int → Option (Bool)
  | 0, _, _, _, _ => none
  | k + 1, x5, x8, x76, x77 => if x77 < x76 then (if 0 ≤ x77 then (if x77 < (x8.length : Int) then (if x77 < (x5.length : Int) then (if ((rd_L3 x8 x77).length : Int) = ((rd_L5 x5 x77).length : Int) then (railplanlaw3_WordsRoundTrip.l2 k x5 x8 x77 x76 x77 ((rd_L3 x8 x77).length : Int) 0) else (some false)) else (none)) else (none)) else (none)) else (some true)
def railplanlaw3_WordsRoundTrip.l2 : Nat → List (List ByteArray) → List (List (S32)) → Int → Int → Int → Int → Int → Option (Bool)
  | 0, _, _, _, _, _, _, _ => none
  | k + 1, x5, x8, x11, x76, x77, x95, x96 => if x96 < x95 then (if 0 ≤ x11 then (if x11 < (x8.length : Int) then (if 0 ≤ x96 then (if x96 < ((rd_L3 x8 x11).length : Int) then (if x11 < (x5.length : Int) then (if x96 < ((rd_L5 x5 x11).length : Int) then (if ((rd_T32 (rd_L3 x8 x11) x96).f0).toList = (rdOf ByteArray.empty (rd_L5 x5 x11) x96).toList then (if ((rd_T32 (rd_L3 x8 x11) x96).f1) = (wrap64 (x11 + 1)) then (railplanlaw3_WordsRoundTrip.l2 k x5 x8 x11 x76 x77 x95 (wrap64 (x96 + 1))) else (some false)) else (some false)) else (none)) else (none)) else (none)) else (none)) else (none)) else (none)) else (railplanlaw3_WordsRoundTrip.l1 k x5 x8 x76 (wrap64 (x77 + 1)))
end
def railplanlaw3_WordsRoundTrip.f (k : Nat) (l0 : List Int) (a1 : Int) : Option (Bool) := railplanlaw3_WordsRoundTrip.l0 k l0 a1 ([] : List (List ByteArray)) 0
theorem railplanlaw3_WordsRoundTrip.mono_l : ∀ k, (∀ y0 y1 y2 y3, LeO (railplanlaw3_WordsRoundTrip.l0 k y0 y1 y2 y3) (railplanlaw3_WordsRoundTrip.l0 (k + 1) y0 y1 y2 y3)) ∧ (∀ y0 y1 y2 y3 y4, LeO (railplanlaw3_WordsRoundTrip.j1 k y0 y1 y2 y3 y4) (railplanlaw3_WordsRoundTrip.j1 (k + 1) y0 y1 y2 y3 y4)) ∧ (∀ y0 y1 y2, LeO (railplanlaw3_WordsRoundTrip.j2 k y0 y1 y2) (railplanlaw3_WordsRoundTrip.j2 (k + 1) y0 y1 y2)) ∧ (∀ y0 y1 y2 y3, LeO (railplanlaw3_WordsRoundTrip.l1 k y0 y1 y2 y3) (railplanlaw3_WordsRoundTrip.l1 (k + 1) y0 y1 y2 y3)) ∧ (∀ y0 y1 y2 y3 y4 y5 y6, LeO (railplanlaw3_WordsRoundTrip.l2 k y0 y1 y2 y3 y4 y5 y6) (railplanlaw3_WordsRoundTrip.l2 (k + 1) y0 y1 y2 y3 y4 y5 y6))
  | 0 => ⟨fun _ _ _ _ r h => by simp [railplanlaw3_WordsRoundTrip.l0] at h, fun _ _ _ _ _ r h => by simp [railplanlaw3_WordsRoundTrip.j1] at h, fun _ _ _ r h => by simp [railplanlaw3_WordsRoundTrip.j2] at h, fun _ _ _ _ r h => by simp [railplanlaw3_WordsRoundTrip.l1] at h, fun _ _ _ _ _ _ _ r h => by simp [railplanlaw3_WordsRoundTrip.l2] at h⟩
  | k + 1 => by
    obtain ⟨ih0, ih1, ih2, ih3, ih4⟩ := railplanlaw3_WordsRoundTrip.mono_l k
    refine ⟨?_, ?_, ?_, ?_, ?_⟩
    · intro y0 y1 y2 y3
      unfold railplanlaw3_WordsRoundTrip.l0
      repeat' first
      | (with_reducible exact ih0 _ _ _ _)
      | (with_reducible exact ih1 _ _ _ _ _)
      | (with_reducible exact ih2 _ _ _)
      | (with_reducible exact ih3 _ _ _ _)
      | (with_reducible exact ih4 _ _ _ _ _ _ _)
      | (with_reducible exact railplanlaw3_awake.mono _)
      | (with_reducible exact words_Join.mono _ _)
      | (with_reducible exact words_Lines.mono _ _)
      | (with_reducible exact LeO.refl _)
      | (with_reducible exact LeO.none _)
      | (with_reducible refine LeO.ite ?_ ?_)
      | (with_reducible refine LeO.bind ?_ (fun _ => ?_))
      | exact ih0 _ _ _ _
      | exact ih1 _ _ _ _ _
      | exact ih2 _ _ _
      | exact ih3 _ _ _ _
      | exact ih4 _ _ _ _ _ _ _
      | exact railplanlaw3_awake.mono _
      | exact words_Join.mono _ _
      | exact words_Lines.mono _ _
      | exact LeO.none _
      | refine LeO.ite ?_ ?_
      | refine LeO.bind ?_ (fun _ => ?_)
    · intro y0 y1 y2 y3 y4
      unfold railplanlaw3_WordsRoundTrip.j1
      repeat' first
      | (with_reducible exact ih0 _ _ _ _)
      | (with_reducible exact ih1 _ _ _ _ _)
      | (with_reducible exact ih2 _ _ _)
      | (with_reducible exact ih3 _ _ _ _)
      | (with_reducible exact ih4 _ _ _ _ _ _ _)
      | (with_reducible exact railplanlaw3_awake.mono _)
      | (with_reducible exact words_Join.mono _ _)
      | (with_reducible exact words_Lines.mono _ _)
      | (with_reducible exact LeO.refl _)
      | (with_reducible exact LeO.none _)
      | (with_reducible refine LeO.ite ?_ ?_)
      | (with_reducible refine LeO.bind ?_ (fun _ => ?_))
      | exact ih0 _ _ _ _
      | exact ih1 _ _ _ _ _
      | exact ih2 _ _ _
      | exact ih3 _ _ _ _
      | exact ih4 _ _ _ _ _ _ _
      | exact railplanlaw3_awake.mono _
      | exact words_Join.mono _ _
      | exact words_Lines.mono _ _
      | exact LeO.none _
      | refine LeO.ite ?_ ?_
      | refine LeO.bind ?_ (fun _ => ?_)
    · intro y0 y1 y2
      unfold railplanlaw3_WordsRoundTrip.j2
      repeat' first
      | (with_reducible exact ih0 _ _ _ _)
      | (with_reducible exact ih1 _ _ _ _ _)
      | (with_reducible exact ih2 _ _ _)
      | (with_reducible exact ih3 _ _ _ _)
      | (with_reducible exact ih4 _ _ _ _ _ _ _)
      | (with_reducible exact railplanlaw3_awake.mono _)
      | (with_reducible exact words_Join.mono _ _)
      | (with_reducible exact words_Lines.mono _ _)
      | (with_reducible exact LeO.refl _)
      | (with_reducible exact LeO.none _)
      | (with_reducible refine LeO.ite ?_ ?_)
      | (with_reducible refine LeO.bind ?_ (fun _ => ?_))
      | exact ih0 _ _ _ _
      | exact ih1 _ _ _ _ _
      | exact ih2 _ _ _
      | exact ih3 _ _ _ _
      | exact ih4 _ _ _ _ _ _ _
      | exact railplanlaw3_awake.mono _
      | exact words_Join.mono _ _
      | exact words_Lines.mono _ _
      | exact LeO.none _
      | refine LeO.ite ?_ ?_
      | refine LeO.bind ?_ (fun _ => ?_)
    · intro y0 y1 y2 y3
      unfold railplanlaw3_WordsRoundTrip.l1
      repeat' first
      | (with_reducible exact ih0 _ _ _ _)
      | (with_reducible exact ih1 _ _ _ _ _)
      | (with_reducible exact ih2 _ _ _)
      | (with_reducible exact ih3 _ _ _ _)
      | (with_reducible exact ih4 _ _ _ _ _ _ _)
      | (with_reducible exact railplanlaw3_awake.mono _)
      | (with_reducible exact words_Join.mono _ _)
      | (with_reducible exact words_Lines.mono _ _)
      | (with_reducible exact LeO.refl _)
      | (with_reducible exact LeO.none _)
      | (with_reducible refine LeO.ite ?_ ?_)
      | (with_reducible refine LeO.bind ?_ (fun _ => ?_))
      | exact ih0 _ _ _ _
      | exact ih1 _ _ _ _ _
      | exact ih2 _ _ _
      | exact ih3 _ _ _ _
      | exact ih4 _ _ _ _ _ _ _
      | exact railplanlaw3_awake.mono _
      | exact words_Join.mono _ _
      | exact words_Lines.mono _ _
      | exact LeO.none _
      | refine LeO.ite ?_ ?_
      | refine LeO.bind ?_ (fun _ => ?_)
    · intro y0 y1 y2 y3 y4 y5 y6
      unfold railplanlaw3_WordsRoundTrip.l2
      repeat' first
      | (with_reducible exact ih0 _ _ _ _)
      | (with_reducible exact ih1 _ _ _ _ _)
      | (with_reducible exact ih2 _ _ _)
      | (with_reducible exact ih3 _ _ _ _)
      | (with_reducible exact ih4 _ _ _ _ _ _ _)
      | (with_reducible exact railplanlaw3_awake.mono _)
      | (with_reducible exact words_Join.mono _ _)
      | (with_reducible exact words_Lines.mono _ _)
      | (with_reducible exact LeO.refl _)
      | (with_reducible exact LeO.none _)
      | (with_reducible refine LeO.ite ?_ ?_)
      | (with_reducible refine LeO.bind ?_ (fun _ => ?_))
      | exact ih0 _ _ _ _
      | exact ih1 _ _ _ _ _
      | exact ih2 _ _ _
      | exact ih3 _ _ _ _
      | exact ih4 _ _ _ _ _ _ _
      | exact railplanlaw3_awake.mono _
      | exact words_Join.mono _ _
      | exact words_Lines.mono _ _
      | exact LeO.none _
      | refine LeO.ite ?_ ?_
      | refine LeO.bind ?_ (fun _ => ?_)
theorem railplanlaw3_WordsRoundTrip.mono : ∀ a0 a1 k, LeO (railplanlaw3_WordsRoundTrip.f k a0 a1) (railplanlaw3_WordsRoundTrip.f (k + 1) a0 a1) := by
  intro a0 a1 k
  obtain ⟨ih0, ih1, ih2, ih3, ih4⟩ := railplanlaw3_WordsRoundTrip.mono_l k
  unfold railplanlaw3_WordsRoundTrip.f
  repeat' first
      | (with_reducible exact ih0 _ _ _ _)
      | (with_reducible exact ih1 _ _ _ _ _)
      | (with_reducible exact ih2 _ _ _)
      | (with_reducible exact ih3 _ _ _ _)
      | (with_reducible exact ih4 _ _ _ _ _ _ _)
      | (with_reducible exact railplanlaw3_awake.mono _)
      | (with_reducible exact words_Join.mono _ _)
      | (with_reducible exact words_Lines.mono _ _)
      | (with_reducible exact LeO.refl _)
      | (with_reducible exact LeO.none _)
      | (with_reducible refine LeO.ite ?_ ?_)
      | (with_reducible refine LeO.bind ?_ (fun _ => ?_))
      | exact ih0 _ _ _ _
      | exact ih1 _ _ _ _ _
      | exact ih2 _ _ _
      | exact ih3 _ _ _ _
      | exact ih4 _ _ _ _ _ _ _
      | exact railplanlaw3_awake.mono _
      | exact words_Join.mono _ _
      | exact words_Lines.mono _ _
      | exact LeO.none _
      | refine LeO.ite ?_ ?_
      | refine LeO.bind ?_ (fun _ => ?_)
set_option maxHeartbeats 8000000 in
set_option maxRecDepth 100000 in
theorem railplanlaw3_WordsRoundTrip.calls (k : Nat) (A0 : Option Addr) (c0 : Nat) (l0 : List Int) (a1 : Int) (r : Bool) (w : World) (hr0 : Kd.C (Kd.int .u8) w A0 l0.length l0) (hc0 : l0.length ≤ c0) (hL_ : Aside0 (Laid w)) (hr_ : Aside0 (r = true)) (h : railplanlaw3_WordsRoundTrip.f k l0 a1 = some r) :
    Calls Tryd.prog 12 #[.slice A0 l0.length c0, .int .u8 a1] w fun e w' => e = .returned (.bool r) ∧ Below w.heap.size w w' := by
  have HR0 := Aside0.mk hr0
  have HC0 := Aside0.mk hc0
  clear hr0 hc0
  have HB := Aside0.mk (Below.refl w.heap.size w)
  have H : (railplanlaw3_WordsRoundTrip.l0 k l0 a1 ([] : List (List ByteArray)) 0) = some r := h
  clear h
  have H' := Aside0.mk H
  clear H
  go_enter Tryd.func12, Tryd.ntmps12
  go_wp2
  repeat (go_quiet (fail); try go_wp2)
  go_loopg [5, 6] k (fun kq v5 v6 w' => ∃ (x5_1 : List (List ByteArray)) (x6_1 : Int), v6 = .int .i64 x6_1 ∧ Aside0 (railplanlaw3_WordsRoundTrip.l0 kq l0 a1 x5_1 x6_1 = some r) ∧ Aside0 (kq ≤ k) ∧ Aside0 (Kd.S (Kd.slice 9 Kd.string) 43 w' w.heap.size (fun _ => True) v5 x5_1) ∧ Aside0 (Below w.heap.size w w'))
  case atStart => exact ⟨(([] : List (List ByteArray))), (0), (by first | rfl | (simp; done) | (simp [*]; done)), H', ⟨Nat.le_refl _⟩, ⟨by first | exact Kd.S_nil _ _ _ _ _ | exact Kd.N_nil _ _ _ _ _ | exact Kd.V_nil _ _ _ _ _ | exact Kd.Q_nil _ _ _ _ _ | exact Kd.R_nil _ _ _ _ _⟩, ⟨by repeat (first | (with_reducible first | exact HB.out | apply below_alloc | apply pw_below_drewN | apply below_drew1) | exact HB.out)⟩⟩
  case round =>
    clear H'
    try clear c1
    try clear p2
    obtain ⟨x5_1, x6_1, rfl, HA, HK1, HO_5, HB⟩ := hrel
    cases gk with
    | zero => exact absurd HA.out (by simp [railplanlaw3_WordsRoundTrip.l0])
    | succ k1 =>
      have H := HA.out
      clear HA
      simp only [railplanlaw3_WordsRoundTrip.l0] at H
      have HC3 := Aside0.mk H
      clear H
      go_upto_region 3 with (fail)
      repeat (go_quiet (fail); go_upto_region 3 with (fail))
      go_cut [20] (fun v20 wc => ∃ (kq : Nat) (x20_2 : Bool), v20 = .bool x20_2 ∧ Aside0 (railplanlaw3_WordsRoundTrip.j1 kq l0 a1 x5_1 x6_1 x20_2 = some r) ∧ Aside0 (kq ≤ k1) ∧ Aside0 (Kd.S (Kd.slice 9 Kd.string) 43 wc w.heap.size (fun _ => True) u5 x5_1) ∧ Aside0 (Below w.heap.size w wc))
      case first =>
        have H := HC3.out
        clear HC3
        by_cases c4 : x6_1 < (l0.length : Int)
        · rw [if_pos c4] at H
          have c4b0 : decide (x6_1 < (l0.length : Int)) = true := decide_eq_true c4
          clear c4
          (first | rw [c4b0] | (simp only [i64_w, i32_w]; rw [c4b0]) | rw [c4b1] | skip)
          have H' := Aside0.mk H
          clear H
          go_wp2
          repeat (go_quiet (fail); try go_wp2)
          go_meet
          case rel => exact ⟨_, (decide (x6_1 < 60)), (by first | rfl | (simp; done) | (simp [*]; done)), H', ⟨by have := HK1.out; first | omega | exact Nat.le_refl _⟩, ⟨by (with_reducible repeat (first | apply Kd.S_alloc | apply Kd.S_drewN | apply Kd.S_drew)); exact HO_5.out⟩, ⟨by repeat (first | (with_reducible first | exact HB.out | apply below_alloc | apply pw_below_drewN | apply below_drew1) | exact HB.out)⟩⟩
        · rw [if_neg c4] at H
          have c4b0 : decide (x6_1 < (l0.length : Int)) = false := decide_eq_false c4
          clear c4
          (first | rw [c4b0] | (simp only [i64_w, i32_w]; rw [c4b0]) | rw [c4b1] | skip)
          have H' := Aside0.mk H
          clear H
          go_wp2
          repeat (go_quiet (fail); try go_wp2)
          go_meet
          case rel => exact ⟨_, (false), (by first | rfl | (simp; done) | (simp [*]; done)), H', ⟨by have := HK1.out; first | omega | exact Nat.le_refl _⟩, ⟨by (with_reducible repeat (first | apply Kd.S_alloc | apply Kd.S_drewN | apply Kd.S_drew)); exact HO_5.out⟩, ⟨by repeat (first | (with_reducible first | exact HB.out | apply below_alloc | apply pw_below_drewN | apply below_drew1) | exact HB.out)⟩⟩
      case rest =>
        clear HC3
        try clear c1
        try clear p2
        try clear c4
        try clear c4b0
        try clear c4b1
        try clear p2
        obtain ⟨kq, x20_2, rfl, HA, HJ2, HO_5, HB⟩ := hcut
        cases kq with
        | zero => exact absurd HA.out (by simp [railplanlaw3_WordsRoundTrip.j1])
        | succ kj2 =>
          have H := HA.out
          clear HA
          simp only [railplanlaw3_WordsRoundTrip.j1] at H
          by_cases c5 : x20_2 = true
          · subst c5
            have H1 : ((some (([(⟨#[120]⟩ : ByteArray), (⟨#[45, 49]⟩ : ByteArray), (⟨#[46, 46]⟩ : ByteArray), (⟨#[126, 125]⟩ : ByteArray), (⟨#[78, 97, 109, 101, 95, 49]⟩ : ByteArray), (⟨#[33, 34, 36]⟩ : ByteArray)] : List ByteArray) : List ByteArray)).bind fun y272 => (if 0 ≤ x6_1 then (if x6_1 < (l0.length : Int) then (if 0 ≤ (Int.tmod (rd l0 x6_1) 6) then (if (Int.tmod (rd l0 x6_1) 6) < (y272.length : Int) then (if (wrap64 (1 + (wrap64 (Int.tmod a1 7)))) = 0 then (none) else (if (Int.tmod x6_1 (wrap64 (1 + (wrap64 (Int.tmod a1 7))))) = 0 then (if x5_1.length < 5864062014805 then ((some (x5_1 ++ [([] : List ByteArray)] : List (List ByteArray))).bind fun y277 => (if 0 ≤ (wrap64 ((y277.length : Int) - 1)) then (if (wrap64 ((y277.length : Int) - 1)) < (y277.length : Int) then (if (rd_L5 y277 (wrap64 ((y277.length : Int) - 1))).length < 8796093022208 then (railplanlaw3_WordsRoundTrip.l0 kj2 l0 a1 (y277.set ((wrap64 ((y277.length : Int) - 1)) : Int).toNat ((rd_L5 y277 (wrap64 ((y277.length : Int) - 1))) ++ [rdOf ByteArray.empty y272 (Int.tmod (rd l0 x6_1) 6)])) (wrap64 (x6_1 + 1))) else (none)) else (none)) else (none))) else (none)) else (if 0 ≤ (wrap64 ((x5_1.length : Int) - 1)) then (if (wrap64 ((x5_1.length : Int) - 1)) < (x5_1.length : Int) then (if (rd_L5 x5_1 (wrap64 ((x5_1.length : Int) - 1))).length < 8796093022208 then (railplanlaw3_WordsRoundTrip.l0 kj2 l0 a1 (x5_1.set ((wrap64 ((x5_1.length : Int) - 1)) : Int).toNat ((rd_L5 x5_1 (wrap64 ((x5_1.length : Int) - 1))) ++ [rdOf ByteArray.empty y272 (Int.tmod (rd l0 x6_1) 6)])) (wrap64 (x6_1 + 1))) else (none)) else (none)) else (none)))) else (none)) else (none)) else (none)) else (none))) = some r := by rw [if_pos rfl] at H; exact H
            clear H
            have H := H1
            clear H1
            obtain ⟨y272, hy272⟩ : ∃ y_ : List ByteArray, y_ = (([(⟨#[120]⟩ : ByteArray), (⟨#[45, 49]⟩ : ByteArray), (⟨#[46, 46]⟩ : ByteArray), (⟨#[126, 125]⟩ : ByteArray), (⟨#[78, 97, 109, 101, 95, 49]⟩ : ByteArray), (⟨#[33, 34, 36]⟩ : ByteArray)] : List ByteArray)) := ⟨_, rfl⟩
            replace H : (if 0 ≤ x6_1 then (if x6_1 < (l0.length : Int) then (if 0 ≤ (Int.tmod (rd l0 x6_1) 6) then (if (Int.tmod (rd l0 x6_1) 6) < (y272.length : Int) then (if (wrap64 (1 + (wrap64 (Int.tmod a1 7)))) = 0 then (none) else (if (Int.tmod x6_1 (wrap64 (1 + (wrap64 (Int.tmod a1 7))))) = 0 then (if x5_1.length < 5864062014805 then ((some (x5_1 ++ [([] : List ByteArray)] : List (List ByteArray))).bind fun y277 => (if 0 ≤ (wrap64 ((y277.length : Int) - 1)) then (if (wrap64 ((y277.length : Int) - 1)) < (y277.length : Int) then (if (rd_L5 y277 (wrap64 ((y277.length : Int) - 1))).length < 8796093022208 then (railplanlaw3_WordsRoundTrip.l0 kj2 l0 a1 (y277.set ((wrap64 ((y277.length : Int) - 1)) : Int).toNat ((rd_L5 y277 (wrap64 ((y277.length : Int) - 1))) ++ [rdOf ByteArray.empty y272 (Int.tmod (rd l0 x6_1) 6)])) (wrap64 (x6_1 + 1))) else (none)) else (none)) else (none))) else (none)) else (if 0 ≤ (wrap64 ((x5_1.length : Int) - 1)) then (if (wrap64 ((x5_1.length : Int) - 1)) < (x5_1.length : Int) then (if (rd_L5 x5_1 (wrap64 ((x5_1.length : Int) - 1))).length < 8796093022208 then (railplanlaw3_WordsRoundTrip.l0 kj2 l0 a1 (x5_1.set ((wrap64 ((x5_1.length : Int) - 1)) : Int).toNat ((rd_L5 x5_1 (wrap64 ((x5_1.length : Int) - 1))) ++ [rdOf ByteArray.empty y272 (Int.tmod (rd l0 x6_1) 6)])) (wrap64 (x6_1 + 1))) else (none)) else (none)) else (none)))) else (none)) else (none)) else (none)) else (none)) = some r := by first | (rw [hy272]; with_reducible exact H) | (have H2_ := (Option.bind_some _ _).symm.trans H; rw [hy272]; with_reducible exact H2_) | (have H2_ := (Option.bind_some _ _).symm.trans H; with_reducible exact H2_) | with_reducible exact H | (rw [hy272]; exact H) | exact H
            have Ny272 := Aside0.mk hy272
            clear hy272
            by_cases c6 : 0 ≤ x6_1
            · rw [if_pos c6] at H
              have c6b0 : decide (0 ≤ x6_1) = true := decide_eq_true c6
              clear c6
              by_cases c7 : x6_1 < (l0.length : Int)
              · rw [if_pos c7] at H
                have c7b0 : decide (x6_1 < (l0.length : Int)) = true := decide_eq_true c7
                clear c7
                obtain ⟨ji8, hji8⟩ : ∃ j_ : Int, (Int.tmod (rd l0 x6_1) 6) = j_ := ⟨_, rfl⟩
                replace H : (if 0 ≤ (ji8) then (if (ji8) < (y272.length : Int) then (if (wrap64 (1 + (wrap64 (Int.tmod a1 7)))) = 0 then (none) else (if (Int.tmod x6_1 (wrap64 (1 + (wrap64 (Int.tmod a1 7))))) = 0 then (if x5_1.length < 5864062014805 then ((some (x5_1 ++ [([] : List ByteArray)] : List (List ByteArray))).bind fun y277 => (if 0 ≤ (wrap64 ((y277.length : Int) - 1)) then (if (wrap64 ((y277.length : Int) - 1)) < (y277.length : Int) then (if (rd_L5 y277 (wrap64 ((y277.length : Int) - 1))).length < 8796093022208 then (railplanlaw3_WordsRoundTrip.l0 kj2 l0 a1 (y277.set ((wrap64 ((y277.length : Int) - 1)) : Int).toNat ((rd_L5 y277 (wrap64 ((y277.length : Int) - 1))) ++ [rdOf ByteArray.empty y272 (ji8)])) (wrap64 (x6_1 + 1))) else (none)) else (none)) else (none))) else (none)) else (if 0 ≤ (wrap64 ((x5_1.length : Int) - 1)) then (if (wrap64 ((x5_1.length : Int) - 1)) < (x5_1.length : Int) then (if (rd_L5 x5_1 (wrap64 ((x5_1.length : Int) - 1))).length < 8796093022208 then (railplanlaw3_WordsRoundTrip.l0 kj2 l0 a1 (x5_1.set ((wrap64 ((x5_1.length : Int) - 1)) : Int).toNat ((rd_L5 x5_1 (wrap64 ((x5_1.length : Int) - 1))) ++ [rdOf ByteArray.empty y272 (ji8)])) (wrap64 (x6_1 + 1))) else (none)) else (none)) else (none)))) else (none)) else (none)) = some r := by first | (rw [hji8] at H; exact H) | (simp only [hji8] at H ⊢; exact H)
                by_cases c9 : 0 ≤ (ji8)
                · rw [if_pos c9] at H
                  have c9b0 : decide (0 ≤ (ji8)) = true := decide_eq_true c9
                  clear c9
                  by_cases c10 : (ji8) < (y272.length : Int)
                  · rw [if_pos c10] at H
                    have c10b0 : decide ((ji8) < (y272.length : Int)) = true := decide_eq_true c10
                    clear c10
                    by_cases c11 : (wrap64 (1 + (wrap64 (Int.tmod a1 7)))) = 0
                    · rw [if_pos c11] at H
                      exact absurd H (by simp)
                    · rw [if_neg c11] at H
                      have c11b0 : ((wrap64 (1 + (wrap64 (Int.tmod a1 7)))) == 0) = false := beq_eq_false_iff_ne.mpr c11
                      have c11b1 : ((wrap64 (1 + (wrap64 (Int.tmod a1 7)))) != 0) = true := bne_iff_ne.mpr c11
                      by_cases c12 : (Int.tmod x6_1 (wrap64 (1 + (wrap64 (Int.tmod a1 7))))) = 0
                      · rw [if_pos c12] at H
                        have c12b0 : ((Int.tmod x6_1 (wrap64 (1 + (wrap64 (Int.tmod a1 7))))) == 0) = true := beq_iff_eq.mpr c12
                        have c12b1 : ((Int.tmod x6_1 (wrap64 (1 + (wrap64 (Int.tmod a1 7))))) != 0) = false := bne_eq_false_iff_eq.mpr c12
                        clear c12
                        by_cases c13 : x5_1.length < 5864062014805
                        · rw [if_pos c13] at H
                          have LMc13 := Aside0.mk c13
                          clear c13
                          obtain ⟨y277, hy277⟩ : ∃ y_ : List (List ByteArray), y_ = (x5_1 ++ [([] : List ByteArray)]) := ⟨_, rfl⟩
                          replace H : (if 0 ≤ (wrap64 ((y277.length : Int) - 1)) then (if (wrap64 ((y277.length : Int) - 1)) < (y277.length : Int) then (if (rd_L5 y277 (wrap64 ((y277.length : Int) - 1))).length < 8796093022208 then (railplanlaw3_WordsRoundTrip.l0 kj2 l0 a1 (y277.set ((wrap64 ((y277.length : Int) - 1)) : Int).toNat ((rd_L5 y277 (wrap64 ((y277.length : Int) - 1))) ++ [rdOf ByteArray.empty y272 (ji8)])) (wrap64 (x6_1 + 1))) else (none)) else (none)) else (none)) = some r := by first | (rw [hy277]; with_reducible exact H) | (have H2_ := (Option.bind_some _ _).symm.trans H; rw [hy277]; with_reducible exact H2_) | (have H2_ := (Option.bind_some _ _).symm.trans H; with_reducible exact H2_) | with_reducible exact H | (rw [hy277]; exact H) | exact H
                          have Ny277 := Aside0.mk hy277
                          clear hy277
                          obtain ⟨ji14, hji14⟩ : ∃ j_ : Int, (wrap64 ((y277.length : Int) - 1)) = j_ := ⟨_, rfl⟩
                          replace H : (if 0 ≤ (ji14) then (if (ji14) < (y277.length : Int) then (if (rd_L5 y277 (ji14)).length < 8796093022208 then (railplanlaw3_WordsRoundTrip.l0 kj2 l0 a1 (y277.set ((ji14) : Int).toNat ((rd_L5 y277 (ji14)) ++ [rdOf ByteArray.empty y272 (ji8)])) (wrap64 (x6_1 + 1))) else (none)) else (none)) else (none)) = some r := by first | (rw [hji14] at H; exact H) | (simp only [hji14] at H ⊢; exact H)
                          have hji14w : (IntKind.i64.wrap ((y277.length : Int) - 1)) = ji14 := (i64_w _).trans hji14
                          by_cases c15 : 0 ≤ (ji14)
                          · rw [if_pos c15] at H
                            have c15b0 : decide (0 ≤ (ji14)) = true := decide_eq_true c15
                            clear c15
                            by_cases c16 : (ji14) < (y277.length : Int)
                            · rw [if_pos c16] at H
                              have c16b0 : decide ((ji14) < (y277.length : Int)) = true := decide_eq_true c16
                              clear c16
                              by_cases c17 : (rd_L5 y277 (ji14)).length < 8796093022208
                              · rw [if_pos c17] at H
                                have LMc17 := Aside0.mk c17
                                clear c17
                                obtain ⟨y281, hy281⟩ : ∃ y_ : List ByteArray, y_ = ((rd_L5 y277 (ji14)) ++ [rdOf ByteArray.empty y272 (ji8)]) := ⟨_, rfl⟩
                                replace H : (railplanlaw3_WordsRoundTrip.l0 kj2 l0 a1 (y277.set ((ji14) : Int).toNat y281) (wrap64 (x6_1 + 1))) = some r := by first | (rw [hy281]; with_reducible exact H) | (have H2_ := (Option.bind_some _ _).symm.trans H; rw [hy281]; with_reducible exact H2_) | (have H2_ := (Option.bind_some _ _).symm.trans H; with_reducible exact H2_) | with_reducible exact H | (rw [hy281]; exact H) | exact H
                                have Ny281 := Aside0.mk hy281
                                clear hy281
                                obtain ⟨y284, hy284⟩ : ∃ y_ : List (List ByteArray), y_ = (y277.set ((ji14) : Int).toNat y281) := ⟨_, rfl⟩
                                replace H : (railplanlaw3_WordsRoundTrip.l0 kj2 l0 a1 y284 (wrap64 (x6_1 + 1))) = some r := by first | (rw [hy284]; with_reducible exact H) | (have H2_ := (Option.bind_some _ _).symm.trans H; rw [hy284]; with_reducible exact H2_) | (have H2_ := (Option.bind_some _ _).symm.trans H; with_reducible exact H2_) | with_reducible exact H | (rw [hy284]; exact H) | exact H
                                have Ny284 := Aside0.mk hy284
                                clear hy284
                                have H' := Aside0.mk H
                                clear H
                                go_wp2_with (first | ((with_reducible refine gate_dst (N := 23) rfl ?_); (try (refine gate_guard (by rfl) ?_; dsimp only)); refine Kd.R_lit Kd.string _ 9 ?hg (N := 23) ?hd (xs := ([(⟨#[120]⟩ : ByteArray), (⟨#[45, 49]⟩ : ByteArray), (⟨#[46, 46]⟩ : ByteArray), (⟨#[126, 125]⟩ : ByteArray), (⟨#[78, 97, 109, 101, 95, 49]⟩ : ByteArray), (⟨#[33, 34, 36]⟩ : ByteArray)] : List ByteArray)) (inner := [.string (⟨#[120]⟩ : ByteArray), .string (⟨#[45, 49]⟩ : ByteArray), .string (⟨#[46, 46]⟩ : ByteArray), .string (⟨#[126, 125]⟩ : ByteArray), .string (⟨#[78, 97, 109, 101, 95, 49]⟩ : ByteArray), .string (⟨#[33, 34, 36]⟩ : ByteArray)]) (ok := fun _ => True) (okp := fun _ => True) ?hr ?hp (fun _ hk => hk) trivial (Below.refl _ _) (Nat.le_refl _) (by simp) ?_; (case hd => rfl); (case hg => rfl); (case hr => first | (go_simp; done) | (go_simp; rfl)); (case hp => exact (Reps.one (show Kd.M Kd.string _ _ _ (⟨#[120]⟩ : ByteArray) [.string (⟨#[120]⟩ : ByteArray)] from rfl) (Reps.one (show Kd.M Kd.string _ _ _ (⟨#[45, 49]⟩ : ByteArray) [.string (⟨#[45, 49]⟩ : ByteArray)] from rfl) (Reps.one (show Kd.M Kd.string _ _ _ (⟨#[46, 46]⟩ : ByteArray) [.string (⟨#[46, 46]⟩ : ByteArray)] from rfl) (Reps.one (show Kd.M Kd.string _ _ _ (⟨#[126, 125]⟩ : ByteArray) [.string (⟨#[126, 125]⟩ : ByteArray)] from rfl) (Reps.one (show Kd.M Kd.string _ _ _ (⟨#[78, 97, 109, 101, 95, 49]⟩ : ByteArray) [.string (⟨#[78, 97, 109, 101, 95, 49]⟩ : ByteArray)] from rfl) (Reps.one (show Kd.M Kd.string _ _ _ (⟨#[33, 34, 36]⟩ : ByteArray) [.string (⟨#[33, 34, 36]⟩ : ByteArray)] from rfl) (Reps.none _ _)))))))); intro v273 w19 ho20 hb hg_ hnew_; clear hg_ hnew_; (first | rw [← Ny272.out] at ho20 | (simp only [Int.reduceToNat] at ho20; rw [← Ny272.out] at ho20)); have n0_ := Aside0.mk (Kd.S_elder' (by (with_reducible repeat (first | apply Kd.S_alloc | apply Kd.S_drewN | apply Kd.S_drew)); exact HO_5.out) (Kd.R_base ho20) hb); have n1_ := Aside0.mk (Kd.R_lower ho20 (below_size (by repeat (first | (with_reducible first | exact HB.out | apply below_alloc | apply pw_below_drewN | apply below_drew1) | exact HB.out)))); have n2_ := Aside0.mk (below_step (by repeat (first | (with_reducible first | exact HB.out | apply below_alloc | apply pw_below_drewN | apply below_drew1) | exact HB.out)) hb); clear HO_5; clear HB; have HO_5 := n0_; have HO274 := n1_; have HB := n2_; clear n0_ n1_ n2_; clear hb ho20; have p275 : 0 ≤ (x6_1 : Int) := of_decide_eq_true (by first | (with_reducible assumption) | assumption); have q275 : x6_1 < (l0.length : Int) := of_decide_eq_true (by first | (with_reducible assumption) | assumption); obtain ⟨ad275, e275, hx275_0⟩ := Kd.at_int HR0.out x6_1 p275 q275; cases e275; replace hx275_0 := (HB.out.cell (World.block_lt_of_cell? w _ hx275_0)).trans hx275_0; replace p275 := eq_true p275; replace q275 := eq_true q275; obtain ⟨Ao21, co21, eo21⟩ := Kd.R_slice HO274.out; subst eo21; have p276 : 0 ≤ ((ji8) : Int) := of_decide_eq_true (by first | (with_reducible assumption) | assumption); have q276 : (ji8) < (y272.length : Int) := of_decide_eq_true (by first | (with_reducible assumption) | assumption); obtain ⟨ad276, e276, hx276_0⟩ := Kd.at_string (Kd.R_reads' HO274.out).2.2 (ji8) p276 q276; cases e276; replace p276 := eq_true p276; replace q276 := eq_true q276) | ((with_reducible refine gate_builtin (b := .append) (xs := #[.tmp 38, .tmp 39]) rfl ?_); (try (refine gate_guard (by rfl) ?_; dsimp only)); at_builtin; refine Kd.S_append (Kd.slice 9 Kd.string) (w0 := w) w.heap.size rfl (.tmp 38) (.tmp 39) 46 43 (.slice none 0 0) 24 rfl Tryd.underlying46 info43 rfl (by decide) (by omega) u5 x5_1 ([] : List ByteArray) [.slice none 0 0] (fun k_ => some k_ ≠ (.slice (some ad276) y272.length co21 : Value).ownBlock) (fun _ => False) rfl rfl ?aP (fun k_ hk_ => hk_.elim) ?aF ?aO ?aB ?aS ?aL ?_; (case aP => exact Kd.M_row (Kd.R_nil _ _ _ _ _)); (case aB => exact (by repeat (first | (with_reducible first | exact HB.out | apply below_alloc | apply pw_below_drewN | apply below_drew1) | exact HB.out))); (case aF => exact (fun k_ hk => Kd.fresh' (Kd.R_lt (by (with_reducible repeat (first | apply Kd.R_alloc | apply Kd.R_drewN | apply Kd.R_drew)); exact HO274.out)) k_ hk)); (case aO => exact (by (with_reducible repeat (first | apply Kd.S_alloc | apply Kd.S_drewN | apply Kd.S_drew)); exact Kd.S_mono HO_5.out (fun k_ hk => ⟨hk.2, fun e_ => e_⟩))); (case aS => exact (below_size (by repeat (first | (with_reducible first | exact HB.out | apply below_alloc | apply pw_below_drewN | apply below_drew1) | exact HB.out)))); (case aL => have := LMc13.out; omega); intro v278 w22 ho hb hg hat; rw [← Ny277.out] at ho; have n0_ := Aside0.mk (Kd.R_over' (by (with_reducible repeat (first | apply Kd.R_alloc | apply Kd.R_drewN | apply Kd.R_drew)); exact HO274.out) (Kd.S_typed (by (with_reducible repeat (first | apply Kd.S_alloc | apply Kd.S_drewN | apply Kd.S_drew)); exact HO_5.out)) (by decide) hg); have n1_ := Aside0.mk (hb); have n2_ := Aside0.mk (ho); clear HO274; clear HB; clear HO_5; have HO274 := n0_; have HB := n1_; have HO279 := n2_; clear n0_ n1_ n2_; clear ho hb hg hat; obtain ⟨Ao23, co23, eo23⟩ := Kd.S_slice HO279.out; subst eo23; have p280 : 0 ≤ ((ji14) : Int) := of_decide_eq_true (by first | (with_reducible assumption) | assumption); have q280 : (ji14) < (y277.length : Int) := of_decide_eq_true (by first | (with_reducible assumption) | assumption); obtain ⟨ad280, A280_0, c280_0, e280, hx280_0, hl280_0, hi280_0⟩ := at_L5 (Kd.S_reads' HO279.out).2.2 (ji14) p280 q280; cases e280; obtain ⟨ce280, hce280, hMe280, hcc280⟩ := Kd.S_get HO279.out [] (ji14) p280 (by first | exact q280 | exact of_decide_eq_true (by first | (with_reducible assumption) | assumption) | (have e_ := (Kd.S_reads' HO279.out).1; omega)); obtain ⟨ve280_0, rfl, ge280_0⟩ := hMe280; have hv280_0 := hcc280 0 _ rfl; rw [Nat.add_zero, show ((Kd.slice 9 Kd.string)).sz = 1 from rfl, Nat.mul_one] at hv280_0; replace hv280_0 := Option.some.inj (hv280_0.symm.trans hx280_0); rw [hv280_0] at ge280_0; have HL280_0 := Aside0.mk (show Kd.R Kd.string 9 _ _ _ _ (rd_L5 y277 (ji14)) from ge280_0); clear hv280_0 ge280_0; have HX280_0 := Aside0.mk hx280_0; clear hcc280 hce280; have HR280_0 := Aside0.mk hi280_0; have HC280_0 := Aside0.mk hl280_0; clear hi280_0 hl280_0; replace p280 := eq_true p280; replace q280 := eq_true q280; obtain ⟨go24, co24, eo24, gb24, gl24, cl24, HG24⟩ := Kd.S_form HO279.out (by have h_ : ((ji14) : Int) < ((y277.length : Int) : Int) := of_decide_eq_true (by first | (with_reducible assumption) | assumption); have h2_ : 0 ≤ ((ji14) : Int) := (of_decide_eq_true (by first | (with_reducible assumption) | assumption)); omega); (first | cases eo24 | (injection eo24 with ea_ en_ ec_; (first | subst ea_ | (injection ea_ with ea_; subst ea_)); subst ec_; clear en_)); have GB24 := Aside0.mk gb24; have GG24 := Aside0.mk HG24; clear gb24 gl24 HG24; (first | simp only [add_plain] at hx280_0 | skip); obtain ⟨oki24, ce24, hcl24, hM24, hcc24, _, _, hH24⟩ := Kd.S_elem HO279.out [] ((ji14) : Int) (of_decide_eq_true (by first | (with_reducible assumption) | assumption)) (by have h_ : ((ji14) : Int) < ((y277.length : Int) : Int) := of_decide_eq_true (by first | (with_reducible assumption) | assumption); first | exact h_ | (have e_ := (Kd.S_reads' HO279.out).1; omega) | simpa using h_); obtain ⟨ve24_0, rfl, ge24_0⟩ := hM24; have hv24 := hcc24 0 _ rfl; have hX24 := HX280_0.out; (try simp only [add_plain] at hX24); (try simp only [Nat.add_zero] at hv24); (try rw [show ((Kd.slice 9 Kd.string)).sz = 1 from rfl, Nat.mul_one] at hv24); replace hv24 := Option.some.inj (hv24.symm.trans hX24); subst hv24; clear hX24 hcc24 hcl24; have UU24 := Aside0.mk (show Kd.R Kd.string 9 _ w.heap.size oki24 (.slice A280_0 (rd_L5 y277 (ji14)).length c280_0) (rd_L5 y277 (ji14)) from ge24_0); have HH24 := Aside0.mk hH24; have HN24 := Aside0.mk (Kd.S_reads' HO279.out).1; clear hH24 ge24_0) | ((with_reducible refine gate_builtin (b := .append) (xs := #[.tmp 50, .tmp 52]) rfl ?_); (try (refine gate_guard (by rfl) ?_; dsimp only)); at_builtin; refine Kd.R_append Kd.string (w0 := w) w.heap.size rfl (.tmp 50) (.tmp 52) 43 9 (.string ⟨#[]⟩) 16 rfl Tryd.underlying43 info9 rfl (by decide) (by omega) (.slice A280_0 (rd_L5 y277 (ji14)).length c280_0) (rd_L5 y277 (ji14)) (rdOf ByteArray.empty y272 (ji8)) [.string (rdOf ByteArray.empty y272 (ji8))] (fun k_ => oki24 k_ ∨ ((fun k_ => some k_ ≠ (.slice (some ad276) y272.length co21 : Value).ownBlock)) k_ ∧ w22.heap.size ≤ k_) (fun _ => False) rfl rfl ?aP (fun _ hk => hk.elim) ?aF ?aO ?aB ?aS ?aL ?_; (case aP => exact rfl); (case aB => exact (by repeat (first | (with_reducible first | exact HB.out | apply below_alloc | apply pw_below_drewN | apply below_drew1) | exact HB.out))); (case aF => exact (fun k_ hk => .inr ⟨Kd.fresh' (Kd.R_lt (by (with_reducible repeat (first | apply Kd.R_alloc | apply Kd.R_drewN | apply Kd.R_drew)); exact HO274.out)) k_ hk, hk⟩)); (case aO => exact (by (with_reducible repeat (first | apply Kd.R_alloc | apply Kd.R_drewN | apply Kd.R_drew)); exact Kd.R_mono UU24.out (fun _ hk => .inl hk))); (case aS => exact (below_size (by repeat (first | (with_reducible first | exact HB.out | apply below_alloc | apply pw_below_drewN | apply below_drew1) | exact HB.out)))); (case aL => have := LMc17.out; omega); intro v282 w25 ho hb hg hat; rw [← Ny281.out] at ho; have n0_ := Aside0.mk (Kd.R_grown2 (by (with_reducible repeat (first | apply Kd.R_alloc | apply Kd.R_drewN | apply Kd.R_drew)); exact HO274.out) rfl hg (fun k_ e_ => (HL280_0.out.1 k_ e_).1)); have n1_ := Aside0.mk (hb); have n2_ := Aside0.mk (Kd.H_grown (Kd.H_widen (by repeat (first | exact HH24.out | refine Kd.H_alloc ?_ _ | refine Kd.H_drewN ?_ _ | refine Kd.H_drew ?_))) hg (fun k_ e_ => .inl (UU24.out.1 k_ e_))); have n3_ := Aside0.mk (ho); clear HO274; clear HB; clear HH24; clear HO279; clear UU24; clear HL280_0; have HO274 := n0_; have HB := n1_; have HH24 := n2_; have HO283 := n3_; clear n0_ n1_ n2_ n3_; clear ho hb hg hat; have p18 : 0 ≤ ((ji14) : Int) := of_decide_eq_true (by first | (with_reducible assumption) | assumption); have q18 : ((ji14) : Int) < ((y277.length : Int) : Int) := of_decide_eq_true (by first | (with_reducible assumption) | assumption); replace p18 := eq_true p18; replace q18 := eq_true q18; obtain ⟨Ao28, co28, eo28⟩ := Kd.R_slice HO283.out; subst eo28; obtain ⟨_, _, hraw26, _, _, hcc26, _⟩ := Kd.H_raw HH24.out (of_decide_eq_true (by first | (with_reducible assumption) | assumption)) (by have h_ : ((ji14) : Int) < ((y277.length : Int) : Int) := of_decide_eq_true (by first | (with_reducible assumption) | assumption); first | exact h_ | (have e_ := (HN24.out); omega) | simpa using h_); obtain ⟨_, hfr26⟩ := Kd.H_at HH24.out (of_decide_eq_true (by first | (with_reducible assumption) | assumption)) (by have h_ : ((ji14) : Int) < ((y277.length : Int) : Int) := of_decide_eq_true (by first | (with_reducible assumption) | assumption); first | exact h_ | (have e_ := (HN24.out); omega) | simpa using h_); have hx26_0 := hcc26 0 _ rfl; have hf26_0 := hfr26 0; (try simp only [Nat.add_zero] at hx26_0 hf26_0); (try rw [show ((Kd.slice 9 Kd.string)).sz = 1 from rfl, Nat.mul_one] at hx26_0); (try rw [show ((Kd.slice 9 Kd.string)).sz = 1 from rfl, Nat.mul_one] at hf26_0); have HP26 := Kd.S_seg0 HH24.out (of_decide_eq_true (by first | (with_reducible assumption) | assumption)) (by have h_ : ((ji14) : Int) < ((y277.length : Int) : Int) := of_decide_eq_true (by first | (with_reducible assumption) | assumption); first | exact h_ | (have e_ := (HN24.out); omega) | simpa using h_) (seg := [.slice Ao28 y281.length co28]) (j := 0) (show 1 ≤ 1 from by decide) (x' := y281) (Kd.M_row HO283.out) (fun _ hk => hk); (try simp only [show ((Kd.slice 9 Kd.string)).sz = 1 from rfl, Nat.mul_one, Nat.add_zero] at HP26); clear hcc26 hfr26) | ((with_reducible refine gate_store (t := 43) (p := 54) rfl ?_); (try (rw [drewN_self w25]; generalize hq_ : World.drewN w25 _ = w25; have n0_ := Aside0.mk (Kd.R_at hq_ HO274.out); have n1_ := Aside0.mk (Kd.S_at hq_ HO279.out); have n2_ := Aside0.mk (below_at hq_ HB.out); clear hq_ HO274 HO279 HB; have HO274 := n0_; have HO279 := n1_; have HB := n2_; clear n0_ n1_ n2_; (try (obtain ⟨Ao28, co28, eo28⟩ := Kd.R_slice HO283.out)); (try (subst eo28)); (try (obtain ⟨_, _, hraw26, _, _, hcc26, _⟩ := Kd.H_raw HH24.out (of_decide_eq_true (by first | (with_reducible assumption) | assumption)) (by have h_ : ((ji14) : Int) < ((y277.length : Int) : Int) := of_decide_eq_true (by first | (with_reducible assumption) | assumption); first | exact h_ | (have e_ := (HN24.out); omega) | simpa using h_))); (try (obtain ⟨_, hfr26⟩ := Kd.H_at HH24.out (of_decide_eq_true (by first | (with_reducible assumption) | assumption)) (by have h_ : ((ji14) : Int) < ((y277.length : Int) : Int) := of_decide_eq_true (by first | (with_reducible assumption) | assumption); first | exact h_ | (have e_ := (HN24.out); omega) | simpa using h_))); (try (have hx26_0 := hcc26 0 _ rfl)); (try (have hf26_0 := hfr26 0)); (try (try simp only [Nat.add_zero] at hx26_0 hf26_0)); (try (try rw [show ((Kd.slice 9 Kd.string)).sz = 1 from rfl, Nat.mul_one] at hx26_0)); (try (try rw [show ((Kd.slice 9 Kd.string)).sz = 1 from rfl, Nat.mul_one] at hf26_0)); (try (have HP26 := Kd.S_seg0 HH24.out (of_decide_eq_true (by first | (with_reducible assumption) | assumption)) (by have h_ : ((ji14) : Int) < ((y277.length : Int) : Int) := of_decide_eq_true (by first | (with_reducible assumption) | assumption); first | exact h_ | (have e_ := (HN24.out); omega) | simpa using h_) (seg := [.slice Ao28 y281.length co28]) (j := 0) (show 1 ≤ 1 from by decide) (x' := y281) (Kd.M_row HO283.out) (fun _ hk => hk))); (try (try simp only [show ((Kd.slice 9 Kd.string)).sz = 1 from rfl, Nat.mul_one, Nat.add_zero] at HP26)); (try (clear hcc26 hfr26)))); refine store_event (t := 43) (p := 54) (v := ?vo_w27) (w1 := (w25.setCell ⟨go24, ((ji14) : Int).toNat, none⟩ (.slice Ao28 y281.length co28))) ?hg ?ho ?hn ?hr ?_; (case ho => rfl); (case hg => rfl); (case hn => rfl); (case hr => first | (go_simp; done) | (go_simp; rfl)); intro w27 hw; have hg : w25.grownBy w27 (some go24) := (by rw [hw]; exact HP26.2); have hp_ : Kd.S (Kd.slice 9 Kd.string) 43 w27 w.heap.size (fun k_ => some k_ ≠ (.slice (some ad276) y272.length co21 : Value).ownBlock) (.slice (some ⟨go24, 0, none⟩) y277.length co23) y284 := (by rw [hw, Ny284.out]; exact HP26.1); clear HP26; have n0_ := Aside0.mk (Kd.R_over' (v := (.slice (some ⟨go24, 0, none⟩) y277.length co23)) (by (with_reducible repeat (first | apply Kd.R_alloc | apply Kd.R_drewN | apply Kd.R_drew)); exact HO274.out) (Kd.R_typed hraw26) (by decide) hg); have n1_ := Aside0.mk ((by rw [hw]; exact below_set HB.out GB24.out : Below w.heap.size w w27)); have n2_ := Aside0.mk (hp_); clear HO274; clear HB; clear HO283; clear HH24; have HO274 := n0_; have HB := n1_; have HO279 := n2_; clear n0_ n1_ n2_; clear hg hw hp_ hraw26))
                                repeat (go_quiet (first | ((with_reducible refine gate_dst (N := 23) rfl ?_); (try (refine gate_guard (by rfl) ?_; dsimp only)); refine Kd.R_lit Kd.string _ 9 ?hg (N := 23) ?hd (xs := ([(⟨#[120]⟩ : ByteArray), (⟨#[45, 49]⟩ : ByteArray), (⟨#[46, 46]⟩ : ByteArray), (⟨#[126, 125]⟩ : ByteArray), (⟨#[78, 97, 109, 101, 95, 49]⟩ : ByteArray), (⟨#[33, 34, 36]⟩ : ByteArray)] : List ByteArray)) (inner := [.string (⟨#[120]⟩ : ByteArray), .string (⟨#[45, 49]⟩ : ByteArray), .string (⟨#[46, 46]⟩ : ByteArray), .string (⟨#[126, 125]⟩ : ByteArray), .string (⟨#[78, 97, 109, 101, 95, 49]⟩ : ByteArray), .string (⟨#[33, 34, 36]⟩ : ByteArray)]) (ok := fun _ => True) (okp := fun _ => True) ?hr ?hp (fun _ hk => hk) trivial (Below.refl _ _) (Nat.le_refl _) (by simp) ?_; (case hd => rfl); (case hg => rfl); (case hr => first | (go_simp; done) | (go_simp; rfl)); (case hp => exact (Reps.one (show Kd.M Kd.string _ _ _ (⟨#[120]⟩ : ByteArray) [.string (⟨#[120]⟩ : ByteArray)] from rfl) (Reps.one (show Kd.M Kd.string _ _ _ (⟨#[45, 49]⟩ : ByteArray) [.string (⟨#[45, 49]⟩ : ByteArray)] from rfl) (Reps.one (show Kd.M Kd.string _ _ _ (⟨#[46, 46]⟩ : ByteArray) [.string (⟨#[46, 46]⟩ : ByteArray)] from rfl) (Reps.one (show Kd.M Kd.string _ _ _ (⟨#[126, 125]⟩ : ByteArray) [.string (⟨#[126, 125]⟩ : ByteArray)] from rfl) (Reps.one (show Kd.M Kd.string _ _ _ (⟨#[78, 97, 109, 101, 95, 49]⟩ : ByteArray) [.string (⟨#[78, 97, 109, 101, 95, 49]⟩ : ByteArray)] from rfl) (Reps.one (show Kd.M Kd.string _ _ _ (⟨#[33, 34, 36]⟩ : ByteArray) [.string (⟨#[33, 34, 36]⟩ : ByteArray)] from rfl) (Reps.none _ _)))))))); intro v273 w19 ho20 hb hg_ hnew_; clear hg_ hnew_; (first | rw [← Ny272.out] at ho20 | (simp only [Int.reduceToNat] at ho20; rw [← Ny272.out] at ho20)); have n0_ := Aside0.mk (Kd.S_elder' (by (with_reducible repeat (first | apply Kd.S_alloc | apply Kd.S_drewN | apply Kd.S_drew)); exact HO_5.out) (Kd.R_base ho20) hb); have n1_ := Aside0.mk (Kd.R_lower ho20 (below_size (by repeat (first | (with_reducible first | exact HB.out | apply below_alloc | apply pw_below_drewN | apply below_drew1) | exact HB.out)))); have n2_ := Aside0.mk (below_step (by repeat (first | (with_reducible first | exact HB.out | apply below_alloc | apply pw_below_drewN | apply below_drew1) | exact HB.out)) hb); clear HO_5; clear HB; have HO_5 := n0_; have HO274 := n1_; have HB := n2_; clear n0_ n1_ n2_; clear hb ho20; have p275 : 0 ≤ (x6_1 : Int) := of_decide_eq_true (by first | (with_reducible assumption) | assumption); have q275 : x6_1 < (l0.length : Int) := of_decide_eq_true (by first | (with_reducible assumption) | assumption); obtain ⟨ad275, e275, hx275_0⟩ := Kd.at_int HR0.out x6_1 p275 q275; cases e275; replace hx275_0 := (HB.out.cell (World.block_lt_of_cell? w _ hx275_0)).trans hx275_0; replace p275 := eq_true p275; replace q275 := eq_true q275; obtain ⟨Ao21, co21, eo21⟩ := Kd.R_slice HO274.out; subst eo21; have p276 : 0 ≤ ((ji8) : Int) := of_decide_eq_true (by first | (with_reducible assumption) | assumption); have q276 : (ji8) < (y272.length : Int) := of_decide_eq_true (by first | (with_reducible assumption) | assumption); obtain ⟨ad276, e276, hx276_0⟩ := Kd.at_string (Kd.R_reads' HO274.out).2.2 (ji8) p276 q276; cases e276; replace p276 := eq_true p276; replace q276 := eq_true q276) | ((with_reducible refine gate_builtin (b := .append) (xs := #[.tmp 38, .tmp 39]) rfl ?_); (try (refine gate_guard (by rfl) ?_; dsimp only)); at_builtin; refine Kd.S_append (Kd.slice 9 Kd.string) (w0 := w) w.heap.size rfl (.tmp 38) (.tmp 39) 46 43 (.slice none 0 0) 24 rfl Tryd.underlying46 info43 rfl (by decide) (by omega) u5 x5_1 ([] : List ByteArray) [.slice none 0 0] (fun k_ => some k_ ≠ (.slice (some ad276) y272.length co21 : Value).ownBlock) (fun _ => False) rfl rfl ?aP (fun k_ hk_ => hk_.elim) ?aF ?aO ?aB ?aS ?aL ?_; (case aP => exact Kd.M_row (Kd.R_nil _ _ _ _ _)); (case aB => exact (by repeat (first | (with_reducible first | exact HB.out | apply below_alloc | apply pw_below_drewN | apply below_drew1) | exact HB.out))); (case aF => exact (fun k_ hk => Kd.fresh' (Kd.R_lt (by (with_reducible repeat (first | apply Kd.R_alloc | apply Kd.R_drewN | apply Kd.R_drew)); exact HO274.out)) k_ hk)); (case aO => exact (by (with_reducible repeat (first | apply Kd.S_alloc | apply Kd.S_drewN | apply Kd.S_drew)); exact Kd.S_mono HO_5.out (fun k_ hk => ⟨hk.2, fun e_ => e_⟩))); (case aS => exact (below_size (by repeat (first | (with_reducible first | exact HB.out | apply below_alloc | apply pw_below_drewN | apply below_drew1) | exact HB.out)))); (case aL => have := LMc13.out; omega); intro v278 w22 ho hb hg hat; rw [← Ny277.out] at ho; have n0_ := Aside0.mk (Kd.R_over' (by (with_reducible repeat (first | apply Kd.R_alloc | apply Kd.R_drewN | apply Kd.R_drew)); exact HO274.out) (Kd.S_typed (by (with_reducible repeat (first | apply Kd.S_alloc | apply Kd.S_drewN | apply Kd.S_drew)); exact HO_5.out)) (by decide) hg); have n1_ := Aside0.mk (hb); have n2_ := Aside0.mk (ho); clear HO274; clear HB; clear HO_5; have HO274 := n0_; have HB := n1_; have HO279 := n2_; clear n0_ n1_ n2_; clear ho hb hg hat; obtain ⟨Ao23, co23, eo23⟩ := Kd.S_slice HO279.out; subst eo23; have p280 : 0 ≤ ((ji14) : Int) := of_decide_eq_true (by first | (with_reducible assumption) | assumption); have q280 : (ji14) < (y277.length : Int) := of_decide_eq_true (by first | (with_reducible assumption) | assumption); obtain ⟨ad280, A280_0, c280_0, e280, hx280_0, hl280_0, hi280_0⟩ := at_L5 (Kd.S_reads' HO279.out).2.2 (ji14) p280 q280; cases e280; obtain ⟨ce280, hce280, hMe280, hcc280⟩ := Kd.S_get HO279.out [] (ji14) p280 (by first | exact q280 | exact of_decide_eq_true (by first | (with_reducible assumption) | assumption) | (have e_ := (Kd.S_reads' HO279.out).1; omega)); obtain ⟨ve280_0, rfl, ge280_0⟩ := hMe280; have hv280_0 := hcc280 0 _ rfl; rw [Nat.add_zero, show ((Kd.slice 9 Kd.string)).sz = 1 from rfl, Nat.mul_one] at hv280_0; replace hv280_0 := Option.some.inj (hv280_0.symm.trans hx280_0); rw [hv280_0] at ge280_0; have HL280_0 := Aside0.mk (show Kd.R Kd.string 9 _ _ _ _ (rd_L5 y277 (ji14)) from ge280_0); clear hv280_0 ge280_0; have HX280_0 := Aside0.mk hx280_0; clear hcc280 hce280; have HR280_0 := Aside0.mk hi280_0; have HC280_0 := Aside0.mk hl280_0; clear hi280_0 hl280_0; replace p280 := eq_true p280; replace q280 := eq_true q280; obtain ⟨go24, co24, eo24, gb24, gl24, cl24, HG24⟩ := Kd.S_form HO279.out (by have h_ : ((ji14) : Int) < ((y277.length : Int) : Int) := of_decide_eq_true (by first | (with_reducible assumption) | assumption); have h2_ : 0 ≤ ((ji14) : Int) := (of_decide_eq_true (by first | (with_reducible assumption) | assumption)); omega); (first | cases eo24 | (injection eo24 with ea_ en_ ec_; (first | subst ea_ | (injection ea_ with ea_; subst ea_)); subst ec_; clear en_)); have GB24 := Aside0.mk gb24; have GG24 := Aside0.mk HG24; clear gb24 gl24 HG24; (first | simp only [add_plain] at hx280_0 | skip); obtain ⟨oki24, ce24, hcl24, hM24, hcc24, _, _, hH24⟩ := Kd.S_elem HO279.out [] ((ji14) : Int) (of_decide_eq_true (by first | (with_reducible assumption) | assumption)) (by have h_ : ((ji14) : Int) < ((y277.length : Int) : Int) := of_decide_eq_true (by first | (with_reducible assumption) | assumption); first | exact h_ | (have e_ := (Kd.S_reads' HO279.out).1; omega) | simpa using h_); obtain ⟨ve24_0, rfl, ge24_0⟩ := hM24; have hv24 := hcc24 0 _ rfl; have hX24 := HX280_0.out; (try simp only [add_plain] at hX24); (try simp only [Nat.add_zero] at hv24); (try rw [show ((Kd.slice 9 Kd.string)).sz = 1 from rfl, Nat.mul_one] at hv24); replace hv24 := Option.some.inj (hv24.symm.trans hX24); subst hv24; clear hX24 hcc24 hcl24; have UU24 := Aside0.mk (show Kd.R Kd.string 9 _ w.heap.size oki24 (.slice A280_0 (rd_L5 y277 (ji14)).length c280_0) (rd_L5 y277 (ji14)) from ge24_0); have HH24 := Aside0.mk hH24; have HN24 := Aside0.mk (Kd.S_reads' HO279.out).1; clear hH24 ge24_0) | ((with_reducible refine gate_builtin (b := .append) (xs := #[.tmp 50, .tmp 52]) rfl ?_); (try (refine gate_guard (by rfl) ?_; dsimp only)); at_builtin; refine Kd.R_append Kd.string (w0 := w) w.heap.size rfl (.tmp 50) (.tmp 52) 43 9 (.string ⟨#[]⟩) 16 rfl Tryd.underlying43 info9 rfl (by decide) (by omega) (.slice A280_0 (rd_L5 y277 (ji14)).length c280_0) (rd_L5 y277 (ji14)) (rdOf ByteArray.empty y272 (ji8)) [.string (rdOf ByteArray.empty y272 (ji8))] (fun k_ => oki24 k_ ∨ ((fun k_ => some k_ ≠ (.slice (some ad276) y272.length co21 : Value).ownBlock)) k_ ∧ w22.heap.size ≤ k_) (fun _ => False) rfl rfl ?aP (fun _ hk => hk.elim) ?aF ?aO ?aB ?aS ?aL ?_; (case aP => exact rfl); (case aB => exact (by repeat (first | (with_reducible first | exact HB.out | apply below_alloc | apply pw_below_drewN | apply below_drew1) | exact HB.out))); (case aF => exact (fun k_ hk => .inr ⟨Kd.fresh' (Kd.R_lt (by (with_reducible repeat (first | apply Kd.R_alloc | apply Kd.R_drewN | apply Kd.R_drew)); exact HO274.out)) k_ hk, hk⟩)); (case aO => exact (by (with_reducible repeat (first | apply Kd.R_alloc | apply Kd.R_drewN | apply Kd.R_drew)); exact Kd.R_mono UU24.out (fun _ hk => .inl hk))); (case aS => exact (below_size (by repeat (first | (with_reducible first | exact HB.out | apply below_alloc | apply pw_below_drewN | apply below_drew1) | exact HB.out)))); (case aL => have := LMc17.out; omega); intro v282 w25 ho hb hg hat; rw [← Ny281.out] at ho; have n0_ := Aside0.mk (Kd.R_grown2 (by (with_reducible repeat (first | apply Kd.R_alloc | apply Kd.R_drewN | apply Kd.R_drew)); exact HO274.out) rfl hg (fun k_ e_ => (HL280_0.out.1 k_ e_).1)); have n1_ := Aside0.mk (hb); have n2_ := Aside0.mk (Kd.H_grown (Kd.H_widen (by repeat (first | exact HH24.out | refine Kd.H_alloc ?_ _ | refine Kd.H_drewN ?_ _ | refine Kd.H_drew ?_))) hg (fun k_ e_ => .inl (UU24.out.1 k_ e_))); have n3_ := Aside0.mk (ho); clear HO274; clear HB; clear HH24; clear HO279; clear UU24; clear HL280_0; have HO274 := n0_; have HB := n1_; have HH24 := n2_; have HO283 := n3_; clear n0_ n1_ n2_ n3_; clear ho hb hg hat; have p18 : 0 ≤ ((ji14) : Int) := of_decide_eq_true (by first | (with_reducible assumption) | assumption); have q18 : ((ji14) : Int) < ((y277.length : Int) : Int) := of_decide_eq_true (by first | (with_reducible assumption) | assumption); replace p18 := eq_true p18; replace q18 := eq_true q18; obtain ⟨Ao28, co28, eo28⟩ := Kd.R_slice HO283.out; subst eo28; obtain ⟨_, _, hraw26, _, _, hcc26, _⟩ := Kd.H_raw HH24.out (of_decide_eq_true (by first | (with_reducible assumption) | assumption)) (by have h_ : ((ji14) : Int) < ((y277.length : Int) : Int) := of_decide_eq_true (by first | (with_reducible assumption) | assumption); first | exact h_ | (have e_ := (HN24.out); omega) | simpa using h_); obtain ⟨_, hfr26⟩ := Kd.H_at HH24.out (of_decide_eq_true (by first | (with_reducible assumption) | assumption)) (by have h_ : ((ji14) : Int) < ((y277.length : Int) : Int) := of_decide_eq_true (by first | (with_reducible assumption) | assumption); first | exact h_ | (have e_ := (HN24.out); omega) | simpa using h_); have hx26_0 := hcc26 0 _ rfl; have hf26_0 := hfr26 0; (try simp only [Nat.add_zero] at hx26_0 hf26_0); (try rw [show ((Kd.slice 9 Kd.string)).sz = 1 from rfl, Nat.mul_one] at hx26_0); (try rw [show ((Kd.slice 9 Kd.string)).sz = 1 from rfl, Nat.mul_one] at hf26_0); have HP26 := Kd.S_seg0 HH24.out (of_decide_eq_true (by first | (with_reducible assumption) | assumption)) (by have h_ : ((ji14) : Int) < ((y277.length : Int) : Int) := of_decide_eq_true (by first | (with_reducible assumption) | assumption); first | exact h_ | (have e_ := (HN24.out); omega) | simpa using h_) (seg := [.slice Ao28 y281.length co28]) (j := 0) (show 1 ≤ 1 from by decide) (x' := y281) (Kd.M_row HO283.out) (fun _ hk => hk); (try simp only [show ((Kd.slice 9 Kd.string)).sz = 1 from rfl, Nat.mul_one, Nat.add_zero] at HP26); clear hcc26 hfr26) | ((with_reducible refine gate_store (t := 43) (p := 54) rfl ?_); (try (rw [drewN_self w25]; generalize hq_ : World.drewN w25 _ = w25; have n0_ := Aside0.mk (Kd.R_at hq_ HO274.out); have n1_ := Aside0.mk (Kd.S_at hq_ HO279.out); have n2_ := Aside0.mk (below_at hq_ HB.out); clear hq_ HO274 HO279 HB; have HO274 := n0_; have HO279 := n1_; have HB := n2_; clear n0_ n1_ n2_; (try (obtain ⟨Ao28, co28, eo28⟩ := Kd.R_slice HO283.out)); (try (subst eo28)); (try (obtain ⟨_, _, hraw26, _, _, hcc26, _⟩ := Kd.H_raw HH24.out (of_decide_eq_true (by first | (with_reducible assumption) | assumption)) (by have h_ : ((ji14) : Int) < ((y277.length : Int) : Int) := of_decide_eq_true (by first | (with_reducible assumption) | assumption); first | exact h_ | (have e_ := (HN24.out); omega) | simpa using h_))); (try (obtain ⟨_, hfr26⟩ := Kd.H_at HH24.out (of_decide_eq_true (by first | (with_reducible assumption) | assumption)) (by have h_ : ((ji14) : Int) < ((y277.length : Int) : Int) := of_decide_eq_true (by first | (with_reducible assumption) | assumption); first | exact h_ | (have e_ := (HN24.out); omega) | simpa using h_))); (try (have hx26_0 := hcc26 0 _ rfl)); (try (have hf26_0 := hfr26 0)); (try (try simp only [Nat.add_zero] at hx26_0 hf26_0)); (try (try rw [show ((Kd.slice 9 Kd.string)).sz = 1 from rfl, Nat.mul_one] at hx26_0)); (try (try rw [show ((Kd.slice 9 Kd.string)).sz = 1 from rfl, Nat.mul_one] at hf26_0)); (try (have HP26 := Kd.S_seg0 HH24.out (of_decide_eq_true (by first | (with_reducible assumption) | assumption)) (by have h_ : ((ji14) : Int) < ((y277.length : Int) : Int) := of_decide_eq_true (by first | (with_reducible assumption) | assumption); first | exact h_ | (have e_ := (HN24.out); omega) | simpa using h_) (seg := [.slice Ao28 y281.length co28]) (j := 0) (show 1 ≤ 1 from by decide) (x' := y281) (Kd.M_row HO283.out) (fun _ hk => hk))); (try (try simp only [show ((Kd.slice 9 Kd.string)).sz = 1 from rfl, Nat.mul_one, Nat.add_zero] at HP26)); (try (clear hcc26 hfr26)))); refine store_event (t := 43) (p := 54) (v := ?vo_w27) (w1 := (w25.setCell ⟨go24, ((ji14) : Int).toNat, none⟩ (.slice Ao28 y281.length co28))) ?hg ?ho ?hn ?hr ?_; (case ho => rfl); (case hg => rfl); (case hn => rfl); (case hr => first | (go_simp; done) | (go_simp; rfl)); intro w27 hw; have hg : w25.grownBy w27 (some go24) := (by rw [hw]; exact HP26.2); have hp_ : Kd.S (Kd.slice 9 Kd.string) 43 w27 w.heap.size (fun k_ => some k_ ≠ (.slice (some ad276) y272.length co21 : Value).ownBlock) (.slice (some ⟨go24, 0, none⟩) y277.length co23) y284 := (by rw [hw, Ny284.out]; exact HP26.1); clear HP26; have n0_ := Aside0.mk (Kd.R_over' (v := (.slice (some ⟨go24, 0, none⟩) y277.length co23)) (by (with_reducible repeat (first | apply Kd.R_alloc | apply Kd.R_drewN | apply Kd.R_drew)); exact HO274.out) (Kd.R_typed hraw26) (by decide) hg); have n1_ := Aside0.mk ((by rw [hw]; exact below_set HB.out GB24.out : Below w.heap.size w w27)); have n2_ := Aside0.mk (hp_); clear HO274; clear HB; clear HO283; clear HH24; have HO274 := n0_; have HB := n1_; have HO279 := n2_; clear n0_ n1_ n2_; clear hg hw hp_ hraw26)); try go_wp2_with (first | ((with_reducible refine gate_dst (N := 23) rfl ?_); (try (refine gate_guard (by rfl) ?_; dsimp only)); refine Kd.R_lit Kd.string _ 9 ?hg (N := 23) ?hd (xs := ([(⟨#[120]⟩ : ByteArray), (⟨#[45, 49]⟩ : ByteArray), (⟨#[46, 46]⟩ : ByteArray), (⟨#[126, 125]⟩ : ByteArray), (⟨#[78, 97, 109, 101, 95, 49]⟩ : ByteArray), (⟨#[33, 34, 36]⟩ : ByteArray)] : List ByteArray)) (inner := [.string (⟨#[120]⟩ : ByteArray), .string (⟨#[45, 49]⟩ : ByteArray), .string (⟨#[46, 46]⟩ : ByteArray), .string (⟨#[126, 125]⟩ : ByteArray), .string (⟨#[78, 97, 109, 101, 95, 49]⟩ : ByteArray), .string (⟨#[33, 34, 36]⟩ : ByteArray)]) (ok := fun _ => True) (okp := fun _ => True) ?hr ?hp (fun _ hk => hk) trivial (Below.refl _ _) (Nat.le_refl _) (by simp) ?_; (case hd => rfl); (case hg => rfl); (case hr => first | (go_simp; done) | (go_simp; rfl)); (case hp => exact (Reps.one (show Kd.M Kd.string _ _ _ (⟨#[120]⟩ : ByteArray) [.string (⟨#[120]⟩ : ByteArray)] from rfl) (Reps.one (show Kd.M Kd.string _ _ _ (⟨#[45, 49]⟩ : ByteArray) [.string (⟨#[45, 49]⟩ : ByteArray)] from rfl) (Reps.one (show Kd.M Kd.string _ _ _ (⟨#[46, 46]⟩ : ByteArray) [.string (⟨#[46, 46]⟩ : ByteArray)] from rfl) (Reps.one (show Kd.M Kd.string _ _ _ (⟨#[126, 125]⟩ : ByteArray) [.string (⟨#[126, 125]⟩ : ByteArray)] from rfl) (Reps.one (show Kd.M Kd.string _ _ _ (⟨#[78, 97, 109, 101, 95, 49]⟩ : ByteArray) [.string (⟨#[78, 97, 109, 101, 95, 49]⟩ : ByteArray)] from rfl) (Reps.one (show Kd.M Kd.string _ _ _ (⟨#[33, 34, 36]⟩ : ByteArray) [.string (⟨#[33, 34, 36]⟩ : ByteArray)] from rfl) (Reps.none _ _)))))))); intro v273 w19 ho20 hb hg_ hnew_; clear hg_ hnew_; (first | rw [← Ny272.out] at ho20 | (simp only [Int.reduceToNat] at ho20; rw [← Ny272.out] at ho20)); have n0_ := Aside0.mk (Kd.S_elder' (by (with_reducible repeat (first | apply Kd.S_alloc | apply Kd.S_drewN | apply Kd.S_drew)); exact HO_5.out) (Kd.R_base ho20) hb); have n1_ := Aside0.mk (Kd.R_lower ho20 (below_size (by repeat (first | (with_reducible first | exact HB.out | apply below_alloc | apply pw_below_drewN | apply below_drew1) | exact HB.out)))); have n2_ := Aside0.mk (below_step (by repeat (first | (with_reducible first | exact HB.out | apply below_alloc | apply pw_below_drewN | apply below_drew1) | exact HB.out)) hb); clear HO_5; clear HB; have HO_5 := n0_; have HO274 := n1_; have HB := n2_; clear n0_ n1_ n2_; clear hb ho20; have p275 : 0 ≤ (x6_1 : Int) := of_decide_eq_true (by first | (with_reducible assumption) | assumption); have q275 : x6_1 < (l0.length : Int) := of_decide_eq_true (by first | (with_reducible assumption) | assumption); obtain ⟨ad275, e275, hx275_0⟩ := Kd.at_int HR0.out x6_1 p275 q275; cases e275; replace hx275_0 := (HB.out.cell (World.block_lt_of_cell? w _ hx275_0)).trans hx275_0; replace p275 := eq_true p275; replace q275 := eq_true q275; obtain ⟨Ao21, co21, eo21⟩ := Kd.R_slice HO274.out; subst eo21; have p276 : 0 ≤ ((ji8) : Int) := of_decide_eq_true (by first | (with_reducible assumption) | assumption); have q276 : (ji8) < (y272.length : Int) := of_decide_eq_true (by first | (with_reducible assumption) | assumption); obtain ⟨ad276, e276, hx276_0⟩ := Kd.at_string (Kd.R_reads' HO274.out).2.2 (ji8) p276 q276; cases e276; replace p276 := eq_true p276; replace q276 := eq_true q276) | ((with_reducible refine gate_builtin (b := .append) (xs := #[.tmp 38, .tmp 39]) rfl ?_); (try (refine gate_guard (by rfl) ?_; dsimp only)); at_builtin; refine Kd.S_append (Kd.slice 9 Kd.string) (w0 := w) w.heap.size rfl (.tmp 38) (.tmp 39) 46 43 (.slice none 0 0) 24 rfl Tryd.underlying46 info43 rfl (by decide) (by omega) u5 x5_1 ([] : List ByteArray) [.slice none 0 0] (fun k_ => some k_ ≠ (.slice (some ad276) y272.length co21 : Value).ownBlock) (fun _ => False) rfl rfl ?aP (fun k_ hk_ => hk_.elim) ?aF ?aO ?aB ?aS ?aL ?_; (case aP => exact Kd.M_row (Kd.R_nil _ _ _ _ _)); (case aB => exact (by repeat (first | (with_reducible first | exact HB.out | apply below_alloc | apply pw_below_drewN | apply below_drew1) | exact HB.out))); (case aF => exact (fun k_ hk => Kd.fresh' (Kd.R_lt (by (with_reducible repeat (first | apply Kd.R_alloc | apply Kd.R_drewN | apply Kd.R_drew)); exact HO274.out)) k_ hk)); (case aO => exact (by (with_reducible repeat (first | apply Kd.S_alloc | apply Kd.S_drewN | apply Kd.S_drew)); exact Kd.S_mono HO_5.out (fun k_ hk => ⟨hk.2, fun e_ => e_⟩))); (case aS => exact (below_size (by repeat (first | (with_reducible first | exact HB.out | apply below_alloc | apply pw_below_drewN | apply below_drew1) | exact HB.out)))); (case aL => have := LMc13.out; omega); intro v278 w22 ho hb hg hat; rw [← Ny277.out] at ho; have n0_ := Aside0.mk (Kd.R_over' (by (with_reducible repeat (first | apply Kd.R_alloc | apply Kd.R_drewN | apply Kd.R_drew)); exact HO274.out) (Kd.S_typed (by (with_reducible repeat (first | apply Kd.S_alloc | apply Kd.S_drewN | apply Kd.S_drew)); exact HO_5.out)) (by decide) hg); have n1_ := Aside0.mk (hb); have n2_ := Aside0.mk (ho); clear HO274; clear HB; clear HO_5; have HO274 := n0_; have HB := n1_; have HO279 := n2_; clear n0_ n1_ n2_; clear ho hb hg hat; obtain ⟨Ao23, co23, eo23⟩ := Kd.S_slice HO279.out; subst eo23; have p280 : 0 ≤ ((ji14) : Int) := of_decide_eq_true (by first | (with_reducible assumption) | assumption); have q280 : (ji14) < (y277.length : Int) := of_decide_eq_true (by first | (with_reducible assumption) | assumption); obtain ⟨ad280, A280_0, c280_0, e280, hx280_0, hl280_0, hi280_0⟩ := at_L5 (Kd.S_reads' HO279.out).2.2 (ji14) p280 q280; cases e280; obtain ⟨ce280, hce280, hMe280, hcc280⟩ := Kd.S_get HO279.out [] (ji14) p280 (by first | exact q280 | exact of_decide_eq_true (by first | (with_reducible assumption) | assumption) | (have e_ := (Kd.S_reads' HO279.out).1; omega)); obtain ⟨ve280_0, rfl, ge280_0⟩ := hMe280; have hv280_0 := hcc280 0 _ rfl; rw [Nat.add_zero, show ((Kd.slice 9 Kd.string)).sz = 1 from rfl, Nat.mul_one] at hv280_0; replace hv280_0 := Option.some.inj (hv280_0.symm.trans hx280_0); rw [hv280_0] at ge280_0; have HL280_0 := Aside0.mk (show Kd.R Kd.string 9 _ _ _ _ (rd_L5 y277 (ji14)) from ge280_0); clear hv280_0 ge280_0; have HX280_0 := Aside0.mk hx280_0; clear hcc280 hce280; have HR280_0 := Aside0.mk hi280_0; have HC280_0 := Aside0.mk hl280_0; clear hi280_0 hl280_0; replace p280 := eq_true p280; replace q280 := eq_true q280; obtain ⟨go24, co24, eo24, gb24, gl24, cl24, HG24⟩ := Kd.S_form HO279.out (by have h_ : ((ji14) : Int) < ((y277.length : Int) : Int) := of_decide_eq_true (by first | (with_reducible assumption) | assumption); have h2_ : 0 ≤ ((ji14) : Int) := (of_decide_eq_true (by first | (with_reducible assumption) | assumption)); omega); (first | cases eo24 | (injection eo24 with ea_ en_ ec_; (first | subst ea_ | (injection ea_ with ea_; subst ea_)); subst ec_; clear en_)); have GB24 := Aside0.mk gb24; have GG24 := Aside0.mk HG24; clear gb24 gl24 HG24; (first | simp only [add_plain] at hx280_0 | skip); obtain ⟨oki24, ce24, hcl24, hM24, hcc24, _, _, hH24⟩ := Kd.S_elem HO279.out [] ((ji14) : Int) (of_decide_eq_true (by first | (with_reducible assumption) | assumption)) (by have h_ : ((ji14) : Int) < ((y277.length : Int) : Int) := of_decide_eq_true (by first | (with_reducible assumption) | assumption); first | exact h_ | (have e_ := (Kd.S_reads' HO279.out).1; omega) | simpa using h_); obtain ⟨ve24_0, rfl, ge24_0⟩ := hM24; have hv24 := hcc24 0 _ rfl; have hX24 := HX280_0.out; (try simp only [add_plain] at hX24); (try simp only [Nat.add_zero] at hv24); (try rw [show ((Kd.slice 9 Kd.string)).sz = 1 from rfl, Nat.mul_one] at hv24); replace hv24 := Option.some.inj (hv24.symm.trans hX24); subst hv24; clear hX24 hcc24 hcl24; have UU24 := Aside0.mk (show Kd.R Kd.string 9 _ w.heap.size oki24 (.slice A280_0 (rd_L5 y277 (ji14)).length c280_0) (rd_L5 y277 (ji14)) from ge24_0); have HH24 := Aside0.mk hH24; have HN24 := Aside0.mk (Kd.S_reads' HO279.out).1; clear hH24 ge24_0) | ((with_reducible refine gate_builtin (b := .append) (xs := #[.tmp 50, .tmp 52]) rfl ?_); (try (refine gate_guard (by rfl) ?_; dsimp only)); at_builtin; refine Kd.R_append Kd.string (w0 := w) w.heap.size rfl (.tmp 50) (.tmp 52) 43 9 (.string ⟨#[]⟩) 16 rfl Tryd.underlying43 info9 rfl (by decide) (by omega) (.slice A280_0 (rd_L5 y277 (ji14)).length c280_0) (rd_L5 y277 (ji14)) (rdOf ByteArray.empty y272 (ji8)) [.string (rdOf ByteArray.empty y272 (ji8))] (fun k_ => oki24 k_ ∨ ((fun k_ => some k_ ≠ (.slice (some ad276) y272.length co21 : Value).ownBlock)) k_ ∧ w22.heap.size ≤ k_) (fun _ => False) rfl rfl ?aP (fun _ hk => hk.elim) ?aF ?aO ?aB ?aS ?aL ?_; (case aP => exact rfl); (case aB => exact (by repeat (first | (with_reducible first | exact HB.out | apply below_alloc | apply pw_below_drewN | apply below_drew1) | exact HB.out))); (case aF => exact (fun k_ hk => .inr ⟨Kd.fresh' (Kd.R_lt (by (with_reducible repeat (first | apply Kd.R_alloc | apply Kd.R_drewN | apply Kd.R_drew)); exact HO274.out)) k_ hk, hk⟩)); (case aO => exact (by (with_reducible repeat (first | apply Kd.R_alloc | apply Kd.R_drewN | apply Kd.R_drew)); exact Kd.R_mono UU24.out (fun _ hk => .inl hk))); (case aS => exact (below_size (by repeat (first | (with_reducible first | exact HB.out | apply below_alloc | apply pw_below_drewN | apply below_drew1) | exact HB.out)))); (case aL => have := LMc17.out; omega); intro v282 w25 ho hb hg hat; rw [← Ny281.out] at ho; have n0_ := Aside0.mk (Kd.R_grown2 (by (with_reducible repeat (first | apply Kd.R_alloc | apply Kd.R_drewN | apply Kd.R_drew)); exact HO274.out) rfl hg (fun k_ e_ => (HL280_0.out.1 k_ e_).1)); have n1_ := Aside0.mk (hb); have n2_ := Aside0.mk (Kd.H_grown (Kd.H_widen (by repeat (first | exact HH24.out | refine Kd.H_alloc ?_ _ | refine Kd.H_drewN ?_ _ | refine Kd.H_drew ?_))) hg (fun k_ e_ => .inl (UU24.out.1 k_ e_))); have n3_ := Aside0.mk (ho); clear HO274; clear HB; clear HH24; clear HO279; clear UU24; clear HL280_0; have HO274 := n0_; have HB := n1_; have HH24 := n2_; have HO283 := n3_; clear n0_ n1_ n2_ n3_; clear ho hb hg hat; have p18 : 0 ≤ ((ji14) : Int) := of_decide_eq_true (by first | (with_reducible assumption) | assumption); have q18 : ((ji14) : Int) < ((y277.length : Int) : Int) := of_decide_eq_true (by first | (with_reducible assumption) | assumption); replace p18 := eq_true p18; replace q18 := eq_true q18; obtain ⟨Ao28, co28, eo28⟩ := Kd.R_slice HO283.out; subst eo28; obtain ⟨_, _, hraw26, _, _, hcc26, _⟩ := Kd.H_raw HH24.out (of_decide_eq_true (by first | (with_reducible assumption) | assumption)) (by have h_ : ((ji14) : Int) < ((y277.length : Int) : Int) := of_decide_eq_true (by first | (with_reducible assumption) | assumption); first | exact h_ | (have e_ := (HN24.out); omega) | simpa using h_); obtain ⟨_, hfr26⟩ := Kd.H_at HH24.out (of_decide_eq_true (by first | (with_reducible assumption) | assumption)) (by have h_ : ((ji14) : Int) < ((y277.length : Int) : Int) := of_decide_eq_true (by first | (with_reducible assumption) | assumption); first | exact h_ | (have e_ := (HN24.out); omega) | simpa using h_); have hx26_0 := hcc26 0 _ rfl; have hf26_0 := hfr26 0; (try simp only [Nat.add_zero] at hx26_0 hf26_0); (try rw [show ((Kd.slice 9 Kd.string)).sz = 1 from rfl, Nat.mul_one] at hx26_0); (try rw [show ((Kd.slice 9 Kd.string)).sz = 1 from rfl, Nat.mul_one] at hf26_0); have HP26 := Kd.S_seg0 HH24.out (of_decide_eq_true (by first | (with_reducible assumption) | assumption)) (by have h_ : ((ji14) : Int) < ((y277.length : Int) : Int) := of_decide_eq_true (by first | (with_reducible assumption) | assumption); first | exact h_ | (have e_ := (HN24.out); omega) | simpa using h_) (seg := [.slice Ao28 y281.length co28]) (j := 0) (show 1 ≤ 1 from by decide) (x' := y281) (Kd.M_row HO283.out) (fun _ hk => hk); (try simp only [show ((Kd.slice 9 Kd.string)).sz = 1 from rfl, Nat.mul_one, Nat.add_zero] at HP26); clear hcc26 hfr26) | ((with_reducible refine gate_store (t := 43) (p := 54) rfl ?_); (try (rw [drewN_self w25]; generalize hq_ : World.drewN w25 _ = w25; have n0_ := Aside0.mk (Kd.R_at hq_ HO274.out); have n1_ := Aside0.mk (Kd.S_at hq_ HO279.out); have n2_ := Aside0.mk (below_at hq_ HB.out); clear hq_ HO274 HO279 HB; have HO274 := n0_; have HO279 := n1_; have HB := n2_; clear n0_ n1_ n2_; (try (obtain ⟨Ao28, co28, eo28⟩ := Kd.R_slice HO283.out)); (try (subst eo28)); (try (obtain ⟨_, _, hraw26, _, _, hcc26, _⟩ := Kd.H_raw HH24.out (of_decide_eq_true (by first | (with_reducible assumption) | assumption)) (by have h_ : ((ji14) : Int) < ((y277.length : Int) : Int) := of_decide_eq_true (by first | (with_reducible assumption) | assumption); first | exact h_ | (have e_ := (HN24.out); omega) | simpa using h_))); (try (obtain ⟨_, hfr26⟩ := Kd.H_at HH24.out (of_decide_eq_true (by first | (with_reducible assumption) | assumption)) (by have h_ : ((ji14) : Int) < ((y277.length : Int) : Int) := of_decide_eq_true (by first | (with_reducible assumption) | assumption); first | exact h_ | (have e_ := (HN24.out); omega) | simpa using h_))); (try (have hx26_0 := hcc26 0 _ rfl)); (try (have hf26_0 := hfr26 0)); (try (try simp only [Nat.add_zero] at hx26_0 hf26_0)); (try (try rw [show ((Kd.slice 9 Kd.string)).sz = 1 from rfl, Nat.mul_one] at hx26_0)); (try (try rw [show ((Kd.slice 9 Kd.string)).sz = 1 from rfl, Nat.mul_one] at hf26_0)); (try (have HP26 := Kd.S_seg0 HH24.out (of_decide_eq_true (by first | (with_reducible assumption) | assumption)) (by have h_ : ((ji14) : Int) < ((y277.length : Int) : Int) := of_decide_eq_true (by first | (with_reducible assumption) | assumption); first | exact h_ | (have e_ := (HN24.out); omega) | simpa using h_) (seg := [.slice Ao28 y281.length co28]) (j := 0) (show 1 ≤ 1 from by decide) (x' := y281) (Kd.M_row HO283.out) (fun _ hk => hk))); (try (try simp only [show ((Kd.slice 9 Kd.string)).sz = 1 from rfl, Nat.mul_one, Nat.add_zero] at HP26)); (try (clear hcc26 hfr26)))); refine store_event (t := 43) (p := 54) (v := ?vo_w27) (w1 := (w25.setCell ⟨go24, ((ji14) : Int).toNat, none⟩ (.slice Ao28 y281.length co28))) ?hg ?ho ?hn ?hr ?_; (case ho => rfl); (case hg => rfl); (case hn => rfl); (case hr => first | (go_simp; done) | (go_simp; rfl)); intro w27 hw; have hg : w25.grownBy w27 (some go24) := (by rw [hw]; exact HP26.2); have hp_ : Kd.S (Kd.slice 9 Kd.string) 43 w27 w.heap.size (fun k_ => some k_ ≠ (.slice (some ad276) y272.length co21 : Value).ownBlock) (.slice (some ⟨go24, 0, none⟩) y277.length co23) y284 := (by rw [hw, Ny284.out]; exact HP26.1); clear HP26; have n0_ := Aside0.mk (Kd.R_over' (v := (.slice (some ⟨go24, 0, none⟩) y277.length co23)) (by (with_reducible repeat (first | apply Kd.R_alloc | apply Kd.R_drewN | apply Kd.R_drew)); exact HO274.out) (Kd.R_typed hraw26) (by decide) hg); have n1_ := Aside0.mk ((by rw [hw]; exact below_set HB.out GB24.out : Below w.heap.size w w27)); have n2_ := Aside0.mk (hp_); clear HO274; clear HB; clear HO283; clear HH24; have HO274 := n0_; have HB := n1_; have HO279 := n2_; clear n0_ n1_ n2_; clear hg hw hp_ hraw26)))
                                go_roundg kj2
                                case measure => have := HK1.out; have := HJ2.out; omega
                                case rel => exact ⟨(y284), (wrap64 (x6_1 + 1)), (by first | rfl | (simp; done) | (simp [*]; done)), H', ⟨by have := HK1.out; have := HJ2.out; omega⟩, ⟨by (with_reducible repeat (first | apply Kd.S_alloc | apply Kd.S_drewN | apply Kd.S_drew)); exact Kd.S_mono HO279.out (fun _ hk => trivial)⟩, ⟨by repeat (first | (with_reducible first | exact HB.out | apply below_alloc | apply pw_below_drewN | apply below_drew1) | exact HB.out)⟩⟩
                              · rw [if_neg c17] at H
                                exact absurd H (by simp)
                            · rw [if_neg c16] at H
                              exact absurd H (by simp)
                          · rw [if_neg c15] at H
                            exact absurd H (by simp)
                        · rw [if_neg c13] at H
                          exact absurd H (by simp)
                      · rw [if_neg c12] at H
                        have c12b0 : ((Int.tmod x6_1 (wrap64 (1 + (wrap64 (Int.tmod a1 7))))) == 0) = false := beq_eq_false_iff_ne.mpr c12
                        have c12b1 : ((Int.tmod x6_1 (wrap64 (1 + (wrap64 (Int.tmod a1 7))))) != 0) = true := bne_iff_ne.mpr c12
                        obtain ⟨ji29, hji29⟩ : ∃ j_ : Int, (wrap64 ((x5_1.length : Int) - 1)) = j_ := ⟨_, rfl⟩
                        replace H : (if 0 ≤ (ji29) then (if (ji29) < (x5_1.length : Int) then (if (rd_L5 x5_1 (ji29)).length < 8796093022208 then (railplanlaw3_WordsRoundTrip.l0 kj2 l0 a1 (x5_1.set ((ji29) : Int).toNat ((rd_L5 x5_1 (ji29)) ++ [rdOf ByteArray.empty y272 (ji8)])) (wrap64 (x6_1 + 1))) else (none)) else (none)) else (none)) = some r := by first | (rw [hji29] at H; exact H) | (simp only [hji29] at H ⊢; exact H)
                        have hji29w : (IntKind.i64.wrap ((x5_1.length : Int) - 1)) = ji29 := (i64_w _).trans hji29
                        by_cases c30 : 0 ≤ (ji29)
                        · rw [if_pos c30] at H
                          have c30b0 : decide (0 ≤ (ji29)) = true := decide_eq_true c30
                          clear c30
                          by_cases c31 : (ji29) < (x5_1.length : Int)
                          · rw [if_pos c31] at H
                            have c31b0 : decide ((ji29) < (x5_1.length : Int)) = true := decide_eq_true c31
                            clear c31
                            by_cases c32 : (rd_L5 x5_1 (ji29)).length < 8796093022208
                            · rw [if_pos c32] at H
                              have LMc32 := Aside0.mk c32
                              clear c32
                              obtain ⟨y286, hy286⟩ : ∃ y_ : List ByteArray, y_ = ((rd_L5 x5_1 (ji29)) ++ [rdOf ByteArray.empty y272 (ji8)]) := ⟨_, rfl⟩
                              replace H : (railplanlaw3_WordsRoundTrip.l0 kj2 l0 a1 (x5_1.set ((ji29) : Int).toNat y286) (wrap64 (x6_1 + 1))) = some r := by first | (rw [hy286]; with_reducible exact H) | (have H2_ := (Option.bind_some _ _).symm.trans H; rw [hy286]; with_reducible exact H2_) | (have H2_ := (Option.bind_some _ _).symm.trans H; with_reducible exact H2_) | with_reducible exact H | (rw [hy286]; exact H) | exact H
                              have Ny286 := Aside0.mk hy286
                              clear hy286
                              obtain ⟨y289, hy289⟩ : ∃ y_ : List (List ByteArray), y_ = (x5_1.set ((ji29) : Int).toNat y286) := ⟨_, rfl⟩
                              replace H : (railplanlaw3_WordsRoundTrip.l0 kj2 l0 a1 y289 (wrap64 (x6_1 + 1))) = some r := by first | (rw [hy289]; with_reducible exact H) | (have H2_ := (Option.bind_some _ _).symm.trans H; rw [hy289]; with_reducible exact H2_) | (have H2_ := (Option.bind_some _ _).symm.trans H; with_reducible exact H2_) | with_reducible exact H | (rw [hy289]; exact H) | exact H
                              have Ny289 := Aside0.mk hy289
                              clear hy289
                              have H' := Aside0.mk H
                              clear H
                              go_wp2_with (first | ((with_reducible refine gate_dst (N := 23) rfl ?_); (try (refine gate_guard (by rfl) ?_; dsimp only)); refine Kd.R_lit Kd.string _ 9 ?hg (N := 23) ?hd (xs := ([(⟨#[120]⟩ : ByteArray), (⟨#[45, 49]⟩ : ByteArray), (⟨#[46, 46]⟩ : ByteArray), (⟨#[126, 125]⟩ : ByteArray), (⟨#[78, 97, 109, 101, 95, 49]⟩ : ByteArray), (⟨#[33, 34, 36]⟩ : ByteArray)] : List ByteArray)) (inner := [.string (⟨#[120]⟩ : ByteArray), .string (⟨#[45, 49]⟩ : ByteArray), .string (⟨#[46, 46]⟩ : ByteArray), .string (⟨#[126, 125]⟩ : ByteArray), .string (⟨#[78, 97, 109, 101, 95, 49]⟩ : ByteArray), .string (⟨#[33, 34, 36]⟩ : ByteArray)]) (ok := fun _ => True) (okp := fun _ => True) ?hr ?hp (fun _ hk => hk) trivial (Below.refl _ _) (Nat.le_refl _) (by simp) ?_; (case hd => rfl); (case hg => rfl); (case hr => first | (go_simp; done) | (go_simp; rfl)); (case hp => exact (Reps.one (show Kd.M Kd.string _ _ _ (⟨#[120]⟩ : ByteArray) [.string (⟨#[120]⟩ : ByteArray)] from rfl) (Reps.one (show Kd.M Kd.string _ _ _ (⟨#[45, 49]⟩ : ByteArray) [.string (⟨#[45, 49]⟩ : ByteArray)] from rfl) (Reps.one (show Kd.M Kd.string _ _ _ (⟨#[46, 46]⟩ : ByteArray) [.string (⟨#[46, 46]⟩ : ByteArray)] from rfl) (Reps.one (show Kd.M Kd.string _ _ _ (⟨#[126, 125]⟩ : ByteArray) [.string (⟨#[126, 125]⟩ : ByteArray)] from rfl) (Reps.one (show Kd.M Kd.string _ _ _ (⟨#[78, 97, 109, 101, 95, 49]⟩ : ByteArray) [.string (⟨#[78, 97, 109, 101, 95, 49]⟩ : ByteArray)] from rfl) (Reps.one (show Kd.M Kd.string _ _ _ (⟨#[33, 34, 36]⟩ : ByteArray) [.string (⟨#[33, 34, 36]⟩ : ByteArray)] from rfl) (Reps.none _ _)))))))); intro v273 w34 ho35 hb hg_ hnew_; clear hg_ hnew_; (first | rw [← Ny272.out] at ho35 | (simp only [Int.reduceToNat] at ho35; rw [← Ny272.out] at ho35)); have n0_ := Aside0.mk (Kd.S_elder' (by (with_reducible repeat (first | apply Kd.S_alloc | apply Kd.S_drewN | apply Kd.S_drew)); exact HO_5.out) (Kd.R_base ho35) hb); have n1_ := Aside0.mk (Kd.R_lower ho35 (below_size (by repeat (first | (with_reducible first | exact HB.out | apply below_alloc | apply pw_below_drewN | apply below_drew1) | exact HB.out)))); have n2_ := Aside0.mk (below_step (by repeat (first | (with_reducible first | exact HB.out | apply below_alloc | apply pw_below_drewN | apply below_drew1) | exact HB.out)) hb); clear HO_5; clear HB; have HO_5 := n0_; have HO274 := n1_; have HB := n2_; clear n0_ n1_ n2_; clear hb ho35; have p275 : 0 ≤ (x6_1 : Int) := of_decide_eq_true (by first | (with_reducible assumption) | assumption); have q275 : x6_1 < (l0.length : Int) := of_decide_eq_true (by first | (with_reducible assumption) | assumption); obtain ⟨ad275, e275, hx275_0⟩ := Kd.at_int HR0.out x6_1 p275 q275; cases e275; replace hx275_0 := (HB.out.cell (World.block_lt_of_cell? w _ hx275_0)).trans hx275_0; replace p275 := eq_true p275; replace q275 := eq_true q275; obtain ⟨Ao36, co36, eo36⟩ := Kd.R_slice HO274.out; subst eo36; have p276 : 0 ≤ ((ji8) : Int) := of_decide_eq_true (by first | (with_reducible assumption) | assumption); have q276 : (ji8) < (y272.length : Int) := of_decide_eq_true (by first | (with_reducible assumption) | assumption); obtain ⟨ad276, e276, hx276_0⟩ := Kd.at_string (Kd.R_reads' HO274.out).2.2 (ji8) p276 q276; cases e276; replace p276 := eq_true p276; replace q276 := eq_true q276; obtain ⟨Ao37, co37, eo37⟩ := Kd.S_slice HO_5.out; subst eo37; have p285 : 0 ≤ ((ji29) : Int) := of_decide_eq_true (by first | (with_reducible assumption) | assumption); have q285 : (ji29) < (x5_1.length : Int) := of_decide_eq_true (by first | (with_reducible assumption) | assumption); obtain ⟨ad285, A285_0, c285_0, e285, hx285_0, hl285_0, hi285_0⟩ := at_L5 (Kd.S_reads' HO_5.out).2.2 (ji29) p285 q285; cases e285; obtain ⟨ce285, hce285, hMe285, hcc285⟩ := Kd.S_get HO_5.out [] (ji29) p285 (by first | exact q285 | exact of_decide_eq_true (by first | (with_reducible assumption) | assumption) | (have e_ := (Kd.S_reads' HO_5.out).1; omega)); obtain ⟨ve285_0, rfl, ge285_0⟩ := hMe285; have hv285_0 := hcc285 0 _ rfl; rw [Nat.add_zero, show ((Kd.slice 9 Kd.string)).sz = 1 from rfl, Nat.mul_one] at hv285_0; replace hv285_0 := Option.some.inj (hv285_0.symm.trans hx285_0); rw [hv285_0] at ge285_0; have HL285_0 := Aside0.mk (show Kd.R Kd.string 9 _ _ _ _ (rd_L5 x5_1 (ji29)) from ge285_0); clear hv285_0 ge285_0; have HX285_0 := Aside0.mk hx285_0; clear hcc285 hce285; have HR285_0 := Aside0.mk hi285_0; have HC285_0 := Aside0.mk hl285_0; clear hi285_0 hl285_0; replace p285 := eq_true p285; replace q285 := eq_true q285; have n_ := Aside0.mk (Kd.S_mono (ok' := (fun k_ => some k_ ≠ (.slice (some ad276) y272.length co36 : Value).ownBlock)) HO_5.out (fun k_ hk => hk.2)); clear HO_5; have HO_5 := n_; clear n_; obtain ⟨go38, co38, eo38, gb38, gl38, cl38, HG38⟩ := Kd.S_form HO_5.out (by have h_ : ((ji29) : Int) < ((x5_1.length : Int) : Int) := of_decide_eq_true (by first | (with_reducible assumption) | assumption); have h2_ : 0 ≤ ((ji29) : Int) := (of_decide_eq_true (by first | (with_reducible assumption) | assumption)); omega); (first | cases eo38 | (injection eo38 with ea_ en_ ec_; (first | subst ea_ | (injection ea_ with ea_; subst ea_)); subst ec_; clear en_)); have GB38 := Aside0.mk gb38; have GG38 := Aside0.mk HG38; clear gb38 gl38 HG38; (first | simp only [add_plain] at hx285_0 | skip); obtain ⟨oki38, ce38, hcl38, hM38, hcc38, _, _, hH38⟩ := Kd.S_elem HO_5.out [] ((ji29) : Int) (of_decide_eq_true (by first | (with_reducible assumption) | assumption)) (by have h_ : ((ji29) : Int) < ((x5_1.length : Int) : Int) := of_decide_eq_true (by first | (with_reducible assumption) | assumption); first | exact h_ | (have e_ := (Kd.S_reads' HO_5.out).1; omega) | simpa using h_); obtain ⟨ve38_0, rfl, ge38_0⟩ := hM38; have hv38 := hcc38 0 _ rfl; have hX38 := HX285_0.out; (try simp only [add_plain] at hX38); (try simp only [Nat.add_zero] at hv38); (try rw [show ((Kd.slice 9 Kd.string)).sz = 1 from rfl, Nat.mul_one] at hv38); replace hv38 := Option.some.inj (hv38.symm.trans hX38); subst hv38; clear hX38 hcc38 hcl38; have UU38 := Aside0.mk (show Kd.R Kd.string 9 _ w.heap.size oki38 (.slice A285_0 (rd_L5 x5_1 (ji29)).length c285_0) (rd_L5 x5_1 (ji29)) from ge38_0); have HH38 := Aside0.mk hH38; have HN38 := Aside0.mk (Kd.S_reads' HO_5.out).1; clear hH38 ge38_0) | ((with_reducible refine gate_builtin (b := .append) (xs := #[.tmp 50, .tmp 52]) rfl ?_); (try (refine gate_guard (by rfl) ?_; dsimp only)); at_builtin; refine Kd.R_append Kd.string (w0 := w) w.heap.size rfl (.tmp 50) (.tmp 52) 43 9 (.string ⟨#[]⟩) 16 rfl Tryd.underlying43 info9 rfl (by decide) (by omega) (.slice A285_0 (rd_L5 x5_1 (ji29)).length c285_0) (rd_L5 x5_1 (ji29)) (rdOf ByteArray.empty y272 (ji8)) [.string (rdOf ByteArray.empty y272 (ji8))] (fun k_ => oki38 k_ ∨ ((fun k_ => some k_ ≠ (.slice (some ad276) y272.length co36 : Value).ownBlock)) k_ ∧ w34.heap.size ≤ k_) (fun _ => False) rfl rfl ?aP (fun _ hk => hk.elim) ?aF ?aO ?aB ?aS ?aL ?_; (case aP => exact rfl); (case aB => exact (by repeat (first | (with_reducible first | exact HB.out | apply below_alloc | apply pw_below_drewN | apply below_drew1) | exact HB.out))); (case aF => exact (fun k_ hk => .inr ⟨Kd.fresh' (Kd.R_lt (by (with_reducible repeat (first | apply Kd.R_alloc | apply Kd.R_drewN | apply Kd.R_drew)); exact HO274.out)) k_ hk, hk⟩)); (case aO => exact (by (with_reducible repeat (first | apply Kd.R_alloc | apply Kd.R_drewN | apply Kd.R_drew)); exact Kd.R_mono UU38.out (fun _ hk => .inl hk))); (case aS => exact (below_size (by repeat (first | (with_reducible first | exact HB.out | apply below_alloc | apply pw_below_drewN | apply below_drew1) | exact HB.out)))); (case aL => have := LMc32.out; omega); intro v287 w39 ho hb hg hat; rw [← Ny286.out] at ho; have n0_ := Aside0.mk (Kd.R_grown2 (by (with_reducible repeat (first | apply Kd.R_alloc | apply Kd.R_drewN | apply Kd.R_drew)); exact HO274.out) rfl hg (fun k_ e_ => (HL285_0.out.1 k_ e_).1.2)); have n1_ := Aside0.mk (hb); have n2_ := Aside0.mk (Kd.H_grown (Kd.H_widen (by repeat (first | exact HH38.out | refine Kd.H_alloc ?_ _ | refine Kd.H_drewN ?_ _ | refine Kd.H_drew ?_))) hg (fun k_ e_ => .inl (UU38.out.1 k_ e_))); have n3_ := Aside0.mk (ho); clear HO274; clear HB; clear HH38; clear HO_5; clear UU38; clear HL285_0; have HO274 := n0_; have HB := n1_; have HH38 := n2_; have HO288 := n3_; clear n0_ n1_ n2_ n3_; clear ho hb hg hat; have p33 : 0 ≤ ((ji29) : Int) := of_decide_eq_true (by first | (with_reducible assumption) | assumption); have q33 : ((ji29) : Int) < ((x5_1.length : Int) : Int) := of_decide_eq_true (by first | (with_reducible assumption) | assumption); replace p33 := eq_true p33; replace q33 := eq_true q33; obtain ⟨Ao42, co42, eo42⟩ := Kd.R_slice HO288.out; subst eo42; obtain ⟨_, _, hraw40, _, _, hcc40, _⟩ := Kd.H_raw HH38.out (of_decide_eq_true (by first | (with_reducible assumption) | assumption)) (by have h_ : ((ji29) : Int) < ((x5_1.length : Int) : Int) := of_decide_eq_true (by first | (with_reducible assumption) | assumption); first | exact h_ | (have e_ := (HN38.out); omega) | simpa using h_); obtain ⟨_, hfr40⟩ := Kd.H_at HH38.out (of_decide_eq_true (by first | (with_reducible assumption) | assumption)) (by have h_ : ((ji29) : Int) < ((x5_1.length : Int) : Int) := of_decide_eq_true (by first | (with_reducible assumption) | assumption); first | exact h_ | (have e_ := (HN38.out); omega) | simpa using h_); have hx40_0 := hcc40 0 _ rfl; have hf40_0 := hfr40 0; (try simp only [Nat.add_zero] at hx40_0 hf40_0); (try rw [show ((Kd.slice 9 Kd.string)).sz = 1 from rfl, Nat.mul_one] at hx40_0); (try rw [show ((Kd.slice 9 Kd.string)).sz = 1 from rfl, Nat.mul_one] at hf40_0); have HP40 := Kd.S_seg0 HH38.out (of_decide_eq_true (by first | (with_reducible assumption) | assumption)) (by have h_ : ((ji29) : Int) < ((x5_1.length : Int) : Int) := of_decide_eq_true (by first | (with_reducible assumption) | assumption); first | exact h_ | (have e_ := (HN38.out); omega) | simpa using h_) (seg := [.slice Ao42 y286.length co42]) (j := 0) (show 1 ≤ 1 from by decide) (x' := y286) (Kd.M_row HO288.out) (fun _ hk => hk); (try simp only [show ((Kd.slice 9 Kd.string)).sz = 1 from rfl, Nat.mul_one, Nat.add_zero] at HP40); clear hcc40 hfr40) | ((with_reducible refine gate_store (t := 43) (p := 54) rfl ?_); (try (rw [drewN_self w39]; generalize hq_ : World.drewN w39 _ = w39; have n0_ := Aside0.mk (Kd.R_at hq_ HO274.out); have n1_ := Aside0.mk (Kd.S_at hq_ HO_5.out); have n2_ := Aside0.mk (below_at hq_ HB.out); clear hq_ HO274 HO_5 HB; have HO274 := n0_; have HO_5 := n1_; have HB := n2_; clear n0_ n1_ n2_; (try (obtain ⟨Ao42, co42, eo42⟩ := Kd.R_slice HO288.out)); (try (subst eo42)); (try (obtain ⟨_, _, hraw40, _, _, hcc40, _⟩ := Kd.H_raw HH38.out (of_decide_eq_true (by first | (with_reducible assumption) | assumption)) (by have h_ : ((ji29) : Int) < ((x5_1.length : Int) : Int) := of_decide_eq_true (by first | (with_reducible assumption) | assumption); first | exact h_ | (have e_ := (HN38.out); omega) | simpa using h_))); (try (obtain ⟨_, hfr40⟩ := Kd.H_at HH38.out (of_decide_eq_true (by first | (with_reducible assumption) | assumption)) (by have h_ : ((ji29) : Int) < ((x5_1.length : Int) : Int) := of_decide_eq_true (by first | (with_reducible assumption) | assumption); first | exact h_ | (have e_ := (HN38.out); omega) | simpa using h_))); (try (have hx40_0 := hcc40 0 _ rfl)); (try (have hf40_0 := hfr40 0)); (try (try simp only [Nat.add_zero] at hx40_0 hf40_0)); (try (try rw [show ((Kd.slice 9 Kd.string)).sz = 1 from rfl, Nat.mul_one] at hx40_0)); (try (try rw [show ((Kd.slice 9 Kd.string)).sz = 1 from rfl, Nat.mul_one] at hf40_0)); (try (have HP40 := Kd.S_seg0 HH38.out (of_decide_eq_true (by first | (with_reducible assumption) | assumption)) (by have h_ : ((ji29) : Int) < ((x5_1.length : Int) : Int) := of_decide_eq_true (by first | (with_reducible assumption) | assumption); first | exact h_ | (have e_ := (HN38.out); omega) | simpa using h_) (seg := [.slice Ao42 y286.length co42]) (j := 0) (show 1 ≤ 1 from by decide) (x' := y286) (Kd.M_row HO288.out) (fun _ hk => hk))); (try (try simp only [show ((Kd.slice 9 Kd.string)).sz = 1 from rfl, Nat.mul_one, Nat.add_zero] at HP40)); (try (clear hcc40 hfr40)))); refine store_event (t := 43) (p := 54) (v := ?vo_w41) (w1 := (w39.setCell ⟨go38, ((ji29) : Int).toNat, none⟩ (.slice Ao42 y286.length co42))) ?hg ?ho ?hn ?hr ?_; (case ho => rfl); (case hg => rfl); (case hn => rfl); (case hr => first | (go_simp; done) | (go_simp; rfl)); intro w41 hw; have hg : w39.grownBy w41 (some go38) := (by rw [hw]; exact HP40.2); have hp_ : Kd.S (Kd.slice 9 Kd.string) 43 w41 w.heap.size (fun k_ => some k_ ≠ (.slice (some ad276) y272.length co36 : Value).ownBlock) (.slice (some ⟨go38, 0, none⟩) x5_1.length co37) y289 := (by rw [hw, Ny289.out]; exact HP40.1); clear HP40; have n0_ := Aside0.mk (Kd.R_over' (v := (.slice (some ⟨go38, 0, none⟩) x5_1.length co37)) (by (with_reducible repeat (first | apply Kd.R_alloc | apply Kd.R_drewN | apply Kd.R_drew)); exact HO274.out) (Kd.R_typed hraw40) (by decide) hg); have n1_ := Aside0.mk ((by rw [hw]; exact below_set HB.out GB38.out : Below w.heap.size w w41)); have n2_ := Aside0.mk (hp_); clear HO274; clear HB; clear HO288; clear HH38; have HO274 := n0_; have HB := n1_; have HO_5 := n2_; clear n0_ n1_ n2_; clear hg hw hp_ hraw40))
                              repeat (go_quiet (first | ((with_reducible refine gate_dst (N := 23) rfl ?_); (try (refine gate_guard (by rfl) ?_; dsimp only)); refine Kd.R_lit Kd.string _ 9 ?hg (N := 23) ?hd (xs := ([(⟨#[120]⟩ : ByteArray), (⟨#[45, 49]⟩ : ByteArray), (⟨#[46, 46]⟩ : ByteArray), (⟨#[126, 125]⟩ : ByteArray), (⟨#[78, 97, 109, 101, 95, 49]⟩ : ByteArray), (⟨#[33, 34, 36]⟩ : ByteArray)] : List ByteArray)) (inner := [.string (⟨#[120]⟩ : ByteArray), .string (⟨#[45, 49]⟩ : ByteArray), .string (⟨#[46, 46]⟩ : ByteArray), .string (⟨#[126, 125]⟩ : ByteArray), .string (⟨#[78, 97, 109, 101, 95, 49]⟩ : ByteArray), .string (⟨#[33, 34, 36]⟩ : ByteArray)]) (ok := fun _ => True) (okp := fun _ => True) ?hr ?hp (fun _ hk => hk) trivial (Below.refl _ _) (Nat.le_refl _) (by simp) ?_; (case hd => rfl); (case hg => rfl); (case hr => first | (go_simp; done) | (go_simp; rfl)); (case hp => exact (Reps.one (show Kd.M Kd.string _ _ _ (⟨#[120]⟩ : ByteArray) [.string (⟨#[120]⟩ : ByteArray)] from rfl) (Reps.one (show Kd.M Kd.string _ _ _ (⟨#[45, 49]⟩ : ByteArray) [.string (⟨#[45, 49]⟩ : ByteArray)] from rfl) (Reps.one (show Kd.M Kd.string _ _ _ (⟨#[46, 46]⟩ : ByteArray) [.string (⟨#[46, 46]⟩ : ByteArray)] from rfl) (Reps.one (show Kd.M Kd.string _ _ _ (⟨#[126, 125]⟩ : ByteArray) [.string (⟨#[126, 125]⟩ : ByteArray)] from rfl) (Reps.one (show Kd.M Kd.string _ _ _ (⟨#[78, 97, 109, 101, 95, 49]⟩ : ByteArray) [.string (⟨#[78, 97, 109, 101, 95, 49]⟩ : ByteArray)] from rfl) (Reps.one (show Kd.M Kd.string _ _ _ (⟨#[33, 34, 36]⟩ : ByteArray) [.string (⟨#[33, 34, 36]⟩ : ByteArray)] from rfl) (Reps.none _ _)))))))); intro v273 w34 ho35 hb hg_ hnew_; clear hg_ hnew_; (first | rw [← Ny272.out] at ho35 | (simp only [Int.reduceToNat] at ho35; rw [← Ny272.out] at ho35)); have n0_ := Aside0.mk (Kd.S_elder' (by (with_reducible repeat (first | apply Kd.S_alloc | apply Kd.S_drewN | apply Kd.S_drew)); exact HO_5.out) (Kd.R_base ho35) hb); have n1_ := Aside0.mk (Kd.R_lower ho35 (below_size (by repeat (first | (with_reducible first | exact HB.out | apply below_alloc | apply pw_below_drewN | apply below_drew1) | exact HB.out)))); have n2_ := Aside0.mk (below_step (by repeat (first | (with_reducible first | exact HB.out | apply below_alloc | apply pw_below_drewN | apply below_drew1) | exact HB.out)) hb); clear HO_5; clear HB; have HO_5 := n0_; have HO274 := n1_; have HB := n2_; clear n0_ n1_ n2_; clear hb ho35; have p275 : 0 ≤ (x6_1 : Int) := of_decide_eq_true (by first | (with_reducible assumption) | assumption); have q275 : x6_1 < (l0.length : Int) := of_decide_eq_true (by first | (with_reducible assumption) | assumption); obtain ⟨ad275, e275, hx275_0⟩ := Kd.at_int HR0.out x6_1 p275 q275; cases e275; replace hx275_0 := (HB.out.cell (World.block_lt_of_cell? w _ hx275_0)).trans hx275_0; replace p275 := eq_true p275; replace q275 := eq_true q275; obtain ⟨Ao36, co36, eo36⟩ := Kd.R_slice HO274.out; subst eo36; have p276 : 0 ≤ ((ji8) : Int) := of_decide_eq_true (by first | (with_reducible assumption) | assumption); have q276 : (ji8) < (y272.length : Int) := of_decide_eq_true (by first | (with_reducible assumption) | assumption); obtain ⟨ad276, e276, hx276_0⟩ := Kd.at_string (Kd.R_reads' HO274.out).2.2 (ji8) p276 q276; cases e276; replace p276 := eq_true p276; replace q276 := eq_true q276; obtain ⟨Ao37, co37, eo37⟩ := Kd.S_slice HO_5.out; subst eo37; have p285 : 0 ≤ ((ji29) : Int) := of_decide_eq_true (by first | (with_reducible assumption) | assumption); have q285 : (ji29) < (x5_1.length : Int) := of_decide_eq_true (by first | (with_reducible assumption) | assumption); obtain ⟨ad285, A285_0, c285_0, e285, hx285_0, hl285_0, hi285_0⟩ := at_L5 (Kd.S_reads' HO_5.out).2.2 (ji29) p285 q285; cases e285; obtain ⟨ce285, hce285, hMe285, hcc285⟩ := Kd.S_get HO_5.out [] (ji29) p285 (by first | exact q285 | exact of_decide_eq_true (by first | (with_reducible assumption) | assumption) | (have e_ := (Kd.S_reads' HO_5.out).1; omega)); obtain ⟨ve285_0, rfl, ge285_0⟩ := hMe285; have hv285_0 := hcc285 0 _ rfl; rw [Nat.add_zero, show ((Kd.slice 9 Kd.string)).sz = 1 from rfl, Nat.mul_one] at hv285_0; replace hv285_0 := Option.some.inj (hv285_0.symm.trans hx285_0); rw [hv285_0] at ge285_0; have HL285_0 := Aside0.mk (show Kd.R Kd.string 9 _ _ _ _ (rd_L5 x5_1 (ji29)) from ge285_0); clear hv285_0 ge285_0; have HX285_0 := Aside0.mk hx285_0; clear hcc285 hce285; have HR285_0 := Aside0.mk hi285_0; have HC285_0 := Aside0.mk hl285_0; clear hi285_0 hl285_0; replace p285 := eq_true p285; replace q285 := eq_true q285; have n_ := Aside0.mk (Kd.S_mono (ok' := (fun k_ => some k_ ≠ (.slice (some ad276) y272.length co36 : Value).ownBlock)) HO_5.out (fun k_ hk => hk.2)); clear HO_5; have HO_5 := n_; clear n_; obtain ⟨go38, co38, eo38, gb38, gl38, cl38, HG38⟩ := Kd.S_form HO_5.out (by have h_ : ((ji29) : Int) < ((x5_1.length : Int) : Int) := of_decide_eq_true (by first | (with_reducible assumption) | assumption); have h2_ : 0 ≤ ((ji29) : Int) := (of_decide_eq_true (by first | (with_reducible assumption) | assumption)); omega); (first | cases eo38 | (injection eo38 with ea_ en_ ec_; (first | subst ea_ | (injection ea_ with ea_; subst ea_)); subst ec_; clear en_)); have GB38 := Aside0.mk gb38; have GG38 := Aside0.mk HG38; clear gb38 gl38 HG38; (first | simp only [add_plain] at hx285_0 | skip); obtain ⟨oki38, ce38, hcl38, hM38, hcc38, _, _, hH38⟩ := Kd.S_elem HO_5.out [] ((ji29) : Int) (of_decide_eq_true (by first | (with_reducible assumption) | assumption)) (by have h_ : ((ji29) : Int) < ((x5_1.length : Int) : Int) := of_decide_eq_true (by first | (with_reducible assumption) | assumption); first | exact h_ | (have e_ := (Kd.S_reads' HO_5.out).1; omega) | simpa using h_); obtain ⟨ve38_0, rfl, ge38_0⟩ := hM38; have hv38 := hcc38 0 _ rfl; have hX38 := HX285_0.out; (try simp only [add_plain] at hX38); (try simp only [Nat.add_zero] at hv38); (try rw [show ((Kd.slice 9 Kd.string)).sz = 1 from rfl, Nat.mul_one] at hv38); replace hv38 := Option.some.inj (hv38.symm.trans hX38); subst hv38; clear hX38 hcc38 hcl38; have UU38 := Aside0.mk (show Kd.R Kd.string 9 _ w.heap.size oki38 (.slice A285_0 (rd_L5 x5_1 (ji29)).length c285_0) (rd_L5 x5_1 (ji29)) from ge38_0); have HH38 := Aside0.mk hH38; have HN38 := Aside0.mk (Kd.S_reads' HO_5.out).1; clear hH38 ge38_0) | ((with_reducible refine gate_builtin (b := .append) (xs := #[.tmp 50, .tmp 52]) rfl ?_); (try (refine gate_guard (by rfl) ?_; dsimp only)); at_builtin; refine Kd.R_append Kd.string (w0 := w) w.heap.size rfl (.tmp 50) (.tmp 52) 43 9 (.string ⟨#[]⟩) 16 rfl Tryd.underlying43 info9 rfl (by decide) (by omega) (.slice A285_0 (rd_L5 x5_1 (ji29)).length c285_0) (rd_L5 x5_1 (ji29)) (rdOf ByteArray.empty y272 (ji8)) [.string (rdOf ByteArray.empty y272 (ji8))] (fun k_ => oki38 k_ ∨ ((fun k_ => some k_ ≠ (.slice (some ad276) y272.length co36 : Value).ownBlock)) k_ ∧ w34.heap.size ≤ k_) (fun _ => False) rfl rfl ?aP (fun _ hk => hk.elim) ?aF ?aO ?aB ?aS ?aL ?_; (case aP => exact rfl); (case aB => exact (by repeat (first | (with_reducible first | exact HB.out | apply below_alloc | apply pw_below_drewN | apply below_drew1) | exact HB.out))); (case aF => exact (fun k_ hk => .inr ⟨Kd.fresh' (Kd.R_lt (by (with_reducible repeat (first | apply Kd.R_alloc | apply Kd.R_drewN | apply Kd.R_drew)); exact HO274.out)) k_ hk, hk⟩)); (case aO => exact (by (with_reducible repeat (first | apply Kd.R_alloc | apply Kd.R_drewN | apply Kd.R_drew)); exact Kd.R_mono UU38.out (fun _ hk => .inl hk))); (case aS => exact (below_size (by repeat (first | (with_reducible first | exact HB.out | apply below_alloc | apply pw_below_drewN | apply below_drew1) | exact HB.out)))); (case aL => have := LMc32.out; omega); intro v287 w39 ho hb hg hat; rw [← Ny286.out] at ho; have n0_ := Aside0.mk (Kd.R_grown2 (by (with_reducible repeat (first | apply Kd.R_alloc | apply Kd.R_drewN | apply Kd.R_drew)); exact HO274.out) rfl hg (fun k_ e_ => (HL285_0.out.1 k_ e_).1.2)); have n1_ := Aside0.mk (hb); have n2_ := Aside0.mk (Kd.H_grown (Kd.H_widen (by repeat (first | exact HH38.out | refine Kd.H_alloc ?_ _ | refine Kd.H_drewN ?_ _ | refine Kd.H_drew ?_))) hg (fun k_ e_ => .inl (UU38.out.1 k_ e_))); have n3_ := Aside0.mk (ho); clear HO274; clear HB; clear HH38; clear HO_5; clear UU38; clear HL285_0; have HO274 := n0_; have HB := n1_; have HH38 := n2_; have HO288 := n3_; clear n0_ n1_ n2_ n3_; clear ho hb hg hat; have p33 : 0 ≤ ((ji29) : Int) := of_decide_eq_true (by first | (with_reducible assumption) | assumption); have q33 : ((ji29) : Int) < ((x5_1.length : Int) : Int) := of_decide_eq_true (by first | (with_reducible assumption) | assumption); replace p33 := eq_true p33; replace q33 := eq_true q33; obtain ⟨Ao42, co42, eo42⟩ := Kd.R_slice HO288.out; subst eo42; obtain ⟨_, _, hraw40, _, _, hcc40, _⟩ := Kd.H_raw HH38.out (of_decide_eq_true (by first | (with_reducible assumption) | assumption)) (by have h_ : ((ji29) : Int) < ((x5_1.length : Int) : Int) := of_decide_eq_true (by first | (with_reducible assumption) | assumption); first | exact h_ | (have e_ := (HN38.out); omega) | simpa using h_); obtain ⟨_, hfr40⟩ := Kd.H_at HH38.out (of_decide_eq_true (by first | (with_reducible assumption) | assumption)) (by have h_ : ((ji29) : Int) < ((x5_1.length : Int) : Int) := of_decide_eq_true (by first | (with_reducible assumption) | assumption); first | exact h_ | (have e_ := (HN38.out); omega) | simpa using h_); have hx40_0 := hcc40 0 _ rfl; have hf40_0 := hfr40 0; (try simp only [Nat.add_zero] at hx40_0 hf40_0); (try rw [show ((Kd.slice 9 Kd.string)).sz = 1 from rfl, Nat.mul_one] at hx40_0); (try rw [show ((Kd.slice 9 Kd.string)).sz = 1 from rfl, Nat.mul_one] at hf40_0); have HP40 := Kd.S_seg0 HH38.out (of_decide_eq_true (by first | (with_reducible assumption) | assumption)) (by have h_ : ((ji29) : Int) < ((x5_1.length : Int) : Int) := of_decide_eq_true (by first | (with_reducible assumption) | assumption); first | exact h_ | (have e_ := (HN38.out); omega) | simpa using h_) (seg := [.slice Ao42 y286.length co42]) (j := 0) (show 1 ≤ 1 from by decide) (x' := y286) (Kd.M_row HO288.out) (fun _ hk => hk); (try simp only [show ((Kd.slice 9 Kd.string)).sz = 1 from rfl, Nat.mul_one, Nat.add_zero] at HP40); clear hcc40 hfr40) | ((with_reducible refine gate_store (t := 43) (p := 54) rfl ?_); (try (rw [drewN_self w39]; generalize hq_ : World.drewN w39 _ = w39; have n0_ := Aside0.mk (Kd.R_at hq_ HO274.out); have n1_ := Aside0.mk (Kd.S_at hq_ HO_5.out); have n2_ := Aside0.mk (below_at hq_ HB.out); clear hq_ HO274 HO_5 HB; have HO274 := n0_; have HO_5 := n1_; have HB := n2_; clear n0_ n1_ n2_; (try (obtain ⟨Ao42, co42, eo42⟩ := Kd.R_slice HO288.out)); (try (subst eo42)); (try (obtain ⟨_, _, hraw40, _, _, hcc40, _⟩ := Kd.H_raw HH38.out (of_decide_eq_true (by first | (with_reducible assumption) | assumption)) (by have h_ : ((ji29) : Int) < ((x5_1.length : Int) : Int) := of_decide_eq_true (by first | (with_reducible assumption) | assumption); first | exact h_ | (have e_ := (HN38.out); omega) | simpa using h_))); (try (obtain ⟨_, hfr40⟩ := Kd.H_at HH38.out (of_decide_eq_true (by first | (with_reducible assumption) | assumption)) (by have h_ : ((ji29) : Int) < ((x5_1.length : Int) : Int) := of_decide_eq_true (by first | (with_reducible assumption) | assumption); first | exact h_ | (have e_ := (HN38.out); omega) | simpa using h_))); (try (have hx40_0 := hcc40 0 _ rfl)); (try (have hf40_0 := hfr40 0)); (try (try simp only [Nat.add_zero] at hx40_0 hf40_0)); (try (try rw [show ((Kd.slice 9 Kd.string)).sz = 1 from rfl, Nat.mul_one] at hx40_0)); (try (try rw [show ((Kd.slice 9 Kd.string)).sz = 1 from rfl, Nat.mul_one] at hf40_0)); (try (have HP40 := Kd.S_seg0 HH38.out (of_decide_eq_true (by first | (with_reducible assumption) | assumption)) (by have h_ : ((ji29) : Int) < ((x5_1.length : Int) : Int) := of_decide_eq_true (by first | (with_reducible assumption) | assumption); first | exact h_ | (have e_ := (HN38.out); omega) | simpa using h_) (seg := [.slice Ao42 y286.length co42]) (j := 0) (show 1 ≤ 1 from by decide) (x' := y286) (Kd.M_row HO288.out) (fun _ hk => hk))); (try (try simp only [show ((Kd.slice 9 Kd.string)).sz = 1 from rfl, Nat.mul_one, Nat.add_zero] at HP40)); (try (clear hcc40 hfr40)))); refine store_event (t := 43) (p := 54) (v := ?vo_w41) (w1 := (w39.setCell ⟨go38, ((ji29) : Int).toNat, none⟩ (.slice Ao42 y286.length co42))) ?hg ?ho ?hn ?hr ?_; (case ho => rfl); (case hg => rfl); (case hn => rfl); (case hr => first | (go_simp; done) | (go_simp; rfl)); intro w41 hw; have hg : w39.grownBy w41 (some go38) := (by rw [hw]; exact HP40.2); have hp_ : Kd.S (Kd.slice 9 Kd.string) 43 w41 w.heap.size (fun k_ => some k_ ≠ (.slice (some ad276) y272.length co36 : Value).ownBlock) (.slice (some ⟨go38, 0, none⟩) x5_1.length co37) y289 := (by rw [hw, Ny289.out]; exact HP40.1); clear HP40; have n0_ := Aside0.mk (Kd.R_over' (v := (.slice (some ⟨go38, 0, none⟩) x5_1.length co37)) (by (with_reducible repeat (first | apply Kd.R_alloc | apply Kd.R_drewN | apply Kd.R_drew)); exact HO274.out) (Kd.R_typed hraw40) (by decide) hg); have n1_ := Aside0.mk ((by rw [hw]; exact below_set HB.out GB38.out : Below w.heap.size w w41)); have n2_ := Aside0.mk (hp_); clear HO274; clear HB; clear HO288; clear HH38; have HO274 := n0_; have HB := n1_; have HO_5 := n2_; clear n0_ n1_ n2_; clear hg hw hp_ hraw40)); try go_wp2_with (first | ((with_reducible refine gate_dst (N := 23) rfl ?_); (try (refine gate_guard (by rfl) ?_; dsimp only)); refine Kd.R_lit Kd.string _ 9 ?hg (N := 23) ?hd (xs := ([(⟨#[120]⟩ : ByteArray), (⟨#[45, 49]⟩ : ByteArray), (⟨#[46, 46]⟩ : ByteArray), (⟨#[126, 125]⟩ : ByteArray), (⟨#[78, 97, 109, 101, 95, 49]⟩ : ByteArray), (⟨#[33, 34, 36]⟩ : ByteArray)] : List ByteArray)) (inner := [.string (⟨#[120]⟩ : ByteArray), .string (⟨#[45, 49]⟩ : ByteArray), .string (⟨#[46, 46]⟩ : ByteArray), .string (⟨#[126, 125]⟩ : ByteArray), .string (⟨#[78, 97, 109, 101, 95, 49]⟩ : ByteArray), .string (⟨#[33, 34, 36]⟩ : ByteArray)]) (ok := fun _ => True) (okp := fun _ => True) ?hr ?hp (fun _ hk => hk) trivial (Below.refl _ _) (Nat.le_refl _) (by simp) ?_; (case hd => rfl); (case hg => rfl); (case hr => first | (go_simp; done) | (go_simp; rfl)); (case hp => exact (Reps.one (show Kd.M Kd.string _ _ _ (⟨#[120]⟩ : ByteArray) [.string (⟨#[120]⟩ : ByteArray)] from rfl) (Reps.one (show Kd.M Kd.string _ _ _ (⟨#[45, 49]⟩ : ByteArray) [.string (⟨#[45, 49]⟩ : ByteArray)] from rfl) (Reps.one (show Kd.M Kd.string _ _ _ (⟨#[46, 46]⟩ : ByteArray) [.string (⟨#[46, 46]⟩ : ByteArray)] from rfl) (Reps.one (show Kd.M Kd.string _ _ _ (⟨#[126, 125]⟩ : ByteArray) [.string (⟨#[126, 125]⟩ : ByteArray)] from rfl) (Reps.one (show Kd.M Kd.string _ _ _ (⟨#[78, 97, 109, 101, 95, 49]⟩ : ByteArray) [.string (⟨#[78, 97, 109, 101, 95, 49]⟩ : ByteArray)] from rfl) (Reps.one (show Kd.M Kd.string _ _ _ (⟨#[33, 34, 36]⟩ : ByteArray) [.string (⟨#[33, 34, 36]⟩ : ByteArray)] from rfl) (Reps.none _ _)))))))); intro v273 w34 ho35 hb hg_ hnew_; clear hg_ hnew_; (first | rw [← Ny272.out] at ho35 | (simp only [Int.reduceToNat] at ho35; rw [← Ny272.out] at ho35)); have n0_ := Aside0.mk (Kd.S_elder' (by (with_reducible repeat (first | apply Kd.S_alloc | apply Kd.S_drewN | apply Kd.S_drew)); exact HO_5.out) (Kd.R_base ho35) hb); have n1_ := Aside0.mk (Kd.R_lower ho35 (below_size (by repeat (first | (with_reducible first | exact HB.out | apply below_alloc | apply pw_below_drewN | apply below_drew1) | exact HB.out)))); have n2_ := Aside0.mk (below_step (by repeat (first | (with_reducible first | exact HB.out | apply below_alloc | apply pw_below_drewN | apply below_drew1) | exact HB.out)) hb); clear HO_5; clear HB; have HO_5 := n0_; have HO274 := n1_; have HB := n2_; clear n0_ n1_ n2_; clear hb ho35; have p275 : 0 ≤ (x6_1 : Int) := of_decide_eq_true (by first | (with_reducible assumption) | assumption); have q275 : x6_1 < (l0.length : Int) := of_decide_eq_true (by first | (with_reducible assumption) | assumption); obtain ⟨ad275, e275, hx275_0⟩ := Kd.at_int HR0.out x6_1 p275 q275; cases e275; replace hx275_0 := (HB.out.cell (World.block_lt_of_cell? w _ hx275_0)).trans hx275_0; replace p275 := eq_true p275; replace q275 := eq_true q275; obtain ⟨Ao36, co36, eo36⟩ := Kd.R_slice HO274.out; subst eo36; have p276 : 0 ≤ ((ji8) : Int) := of_decide_eq_true (by first | (with_reducible assumption) | assumption); have q276 : (ji8) < (y272.length : Int) := of_decide_eq_true (by first | (with_reducible assumption) | assumption); obtain ⟨ad276, e276, hx276_0⟩ := Kd.at_string (Kd.R_reads' HO274.out).2.2 (ji8) p276 q276; cases e276; replace p276 := eq_true p276; replace q276 := eq_true q276; obtain ⟨Ao37, co37, eo37⟩ := Kd.S_slice HO_5.out; subst eo37; have p285 : 0 ≤ ((ji29) : Int) := of_decide_eq_true (by first | (with_reducible assumption) | assumption); have q285 : (ji29) < (x5_1.length : Int) := of_decide_eq_true (by first | (with_reducible assumption) | assumption); obtain ⟨ad285, A285_0, c285_0, e285, hx285_0, hl285_0, hi285_0⟩ := at_L5 (Kd.S_reads' HO_5.out).2.2 (ji29) p285 q285; cases e285; obtain ⟨ce285, hce285, hMe285, hcc285⟩ := Kd.S_get HO_5.out [] (ji29) p285 (by first | exact q285 | exact of_decide_eq_true (by first | (with_reducible assumption) | assumption) | (have e_ := (Kd.S_reads' HO_5.out).1; omega)); obtain ⟨ve285_0, rfl, ge285_0⟩ := hMe285; have hv285_0 := hcc285 0 _ rfl; rw [Nat.add_zero, show ((Kd.slice 9 Kd.string)).sz = 1 from rfl, Nat.mul_one] at hv285_0; replace hv285_0 := Option.some.inj (hv285_0.symm.trans hx285_0); rw [hv285_0] at ge285_0; have HL285_0 := Aside0.mk (show Kd.R Kd.string 9 _ _ _ _ (rd_L5 x5_1 (ji29)) from ge285_0); clear hv285_0 ge285_0; have HX285_0 := Aside0.mk hx285_0; clear hcc285 hce285; have HR285_0 := Aside0.mk hi285_0; have HC285_0 := Aside0.mk hl285_0; clear hi285_0 hl285_0; replace p285 := eq_true p285; replace q285 := eq_true q285; have n_ := Aside0.mk (Kd.S_mono (ok' := (fun k_ => some k_ ≠ (.slice (some ad276) y272.length co36 : Value).ownBlock)) HO_5.out (fun k_ hk => hk.2)); clear HO_5; have HO_5 := n_; clear n_; obtain ⟨go38, co38, eo38, gb38, gl38, cl38, HG38⟩ := Kd.S_form HO_5.out (by have h_ : ((ji29) : Int) < ((x5_1.length : Int) : Int) := of_decide_eq_true (by first | (with_reducible assumption) | assumption); have h2_ : 0 ≤ ((ji29) : Int) := (of_decide_eq_true (by first | (with_reducible assumption) | assumption)); omega); (first | cases eo38 | (injection eo38 with ea_ en_ ec_; (first | subst ea_ | (injection ea_ with ea_; subst ea_)); subst ec_; clear en_)); have GB38 := Aside0.mk gb38; have GG38 := Aside0.mk HG38; clear gb38 gl38 HG38; (first | simp only [add_plain] at hx285_0 | skip); obtain ⟨oki38, ce38, hcl38, hM38, hcc38, _, _, hH38⟩ := Kd.S_elem HO_5.out [] ((ji29) : Int) (of_decide_eq_true (by first | (with_reducible assumption) | assumption)) (by have h_ : ((ji29) : Int) < ((x5_1.length : Int) : Int) := of_decide_eq_true (by first | (with_reducible assumption) | assumption); first | exact h_ | (have e_ := (Kd.S_reads' HO_5.out).1; omega) | simpa using h_); obtain ⟨ve38_0, rfl, ge38_0⟩ := hM38; have hv38 := hcc38 0 _ rfl; have hX38 := HX285_0.out; (try simp only [add_plain] at hX38); (try simp only [Nat.add_zero] at hv38); (try rw [show ((Kd.slice 9 Kd.string)).sz = 1 from rfl, Nat.mul_one] at hv38); replace hv38 := Option.some.inj (hv38.symm.trans hX38); subst hv38; clear hX38 hcc38 hcl38; have UU38 := Aside0.mk (show Kd.R Kd.string 9 _ w.heap.size oki38 (.slice A285_0 (rd_L5 x5_1 (ji29)).length c285_0) (rd_L5 x5_1 (ji29)) from ge38_0); have HH38 := Aside0.mk hH38; have HN38 := Aside0.mk (Kd.S_reads' HO_5.out).1; clear hH38 ge38_0) | ((with_reducible refine gate_builtin (b := .append) (xs := #[.tmp 50, .tmp 52]) rfl ?_); (try (refine gate_guard (by rfl) ?_; dsimp only)); at_builtin; refine Kd.R_append Kd.string (w0 := w) w.heap.size rfl (.tmp 50) (.tmp 52) 43 9 (.string ⟨#[]⟩) 16 rfl Tryd.underlying43 info9 rfl (by decide) (by omega) (.slice A285_0 (rd_L5 x5_1 (ji29)).length c285_0) (rd_L5 x5_1 (ji29)) (rdOf ByteArray.empty y272 (ji8)) [.string (rdOf ByteArray.empty y272 (ji8))] (fun k_ => oki38 k_ ∨ ((fun k_ => some k_ ≠ (.slice (some ad276) y272.length co36 : Value).ownBlock)) k_ ∧ w34.heap.size ≤ k_) (fun _ => False) rfl rfl ?aP (fun _ hk => hk.elim) ?aF ?aO ?aB ?aS ?aL ?_; (case aP => exact rfl); (case aB => exact (by repeat (first | (with_reducible first | exact HB.out | apply below_alloc | apply pw_below_drewN | apply below_drew1) | exact HB.out))); (case aF => exact (fun k_ hk => .inr ⟨Kd.fresh' (Kd.R_lt (by (with_reducible repeat (first | apply Kd.R_alloc | apply Kd.R_drewN | apply Kd.R_drew)); exact HO274.out)) k_ hk, hk⟩)); (case aO => exact (by (with_reducible repeat (first | apply Kd.R_alloc | apply Kd.R_drewN | apply Kd.R_drew)); exact Kd.R_mono UU38.out (fun _ hk => .inl hk))); (case aS => exact (below_size (by repeat (first | (with_reducible first | exact HB.out | apply below_alloc | apply pw_below_drewN | apply below_drew1) | exact HB.out)))); (case aL => have := LMc32.out; omega); intro v287 w39 ho hb hg hat; rw [← Ny286.out] at ho; have n0_ := Aside0.mk (Kd.R_grown2 (by (with_reducible repeat (first | apply Kd.R_alloc | apply Kd.R_drewN | apply Kd.R_drew)); exact HO274.out) rfl hg (fun k_ e_ => (HL285_0.out.1 k_ e_).1.2)); have n1_ := Aside0.mk (hb); have n2_ := Aside0.mk (Kd.H_grown (Kd.H_widen (by repeat (first | exact HH38.out | refine Kd.H_alloc ?_ _ | refine Kd.H_drewN ?_ _ | refine Kd.H_drew ?_))) hg (fun k_ e_ => .inl (UU38.out.1 k_ e_))); have n3_ := Aside0.mk (ho); clear HO274; clear HB; clear HH38; clear HO_5; clear UU38; clear HL285_0; have HO274 := n0_; have HB := n1_; have HH38 := n2_; have HO288 := n3_; clear n0_ n1_ n2_ n3_; clear ho hb hg hat; have p33 : 0 ≤ ((ji29) : Int) := of_decide_eq_true (by first | (with_reducible assumption) | assumption); have q33 : ((ji29) : Int) < ((x5_1.length : Int) : Int) := of_decide_eq_true (by first | (with_reducible assumption) | assumption); replace p33 := eq_true p33; replace q33 := eq_true q33; obtain ⟨Ao42, co42, eo42⟩ := Kd.R_slice HO288.out; subst eo42; obtain ⟨_, _, hraw40, _, _, hcc40, _⟩ := Kd.H_raw HH38.out (of_decide_eq_true (by first | (with_reducible assumption) | assumption)) (by have h_ : ((ji29) : Int) < ((x5_1.length : Int) : Int) := of_decide_eq_true (by first | (with_reducible assumption) | assumption); first | exact h_ | (have e_ := (HN38.out); omega) | simpa using h_); obtain ⟨_, hfr40⟩ := Kd.H_at HH38.out (of_decide_eq_true (by first | (with_reducible assumption) | assumption)) (by have h_ : ((ji29) : Int) < ((x5_1.length : Int) : Int) := of_decide_eq_true (by first | (with_reducible assumption) | assumption); first | exact h_ | (have e_ := (HN38.out); omega) | simpa using h_); have hx40_0 := hcc40 0 _ rfl; have hf40_0 := hfr40 0; (try simp only [Nat.add_zero] at hx40_0 hf40_0); (try rw [show ((Kd.slice 9 Kd.string)).sz = 1 from rfl, Nat.mul_one] at hx40_0); (try rw [show ((Kd.slice 9 Kd.string)).sz = 1 from rfl, Nat.mul_one] at hf40_0); have HP40 := Kd.S_seg0 HH38.out (of_decide_eq_true (by first | (with_reducible assumption) | assumption)) (by have h_ : ((ji29) : Int) < ((x5_1.length : Int) : Int) := of_decide_eq_true (by first | (with_reducible assumption) | assumption); first | exact h_ | (have e_ := (HN38.out); omega) | simpa using h_) (seg := [.slice Ao42 y286.length co42]) (j := 0) (show 1 ≤ 1 from by decide) (x' := y286) (Kd.M_row HO288.out) (fun _ hk => hk); (try simp only [show ((Kd.slice 9 Kd.string)).sz = 1 from rfl, Nat.mul_one, Nat.add_zero] at HP40); clear hcc40 hfr40) | ((with_reducible refine gate_store (t := 43) (p := 54) rfl ?_); (try (rw [drewN_self w39]; generalize hq_ : World.drewN w39 _ = w39; have n0_ := Aside0.mk (Kd.R_at hq_ HO274.out); have n1_ := Aside0.mk (Kd.S_at hq_ HO_5.out); have n2_ := Aside0.mk (below_at hq_ HB.out); clear hq_ HO274 HO_5 HB; have HO274 := n0_; have HO_5 := n1_; have HB := n2_; clear n0_ n1_ n2_; (try (obtain ⟨Ao42, co42, eo42⟩ := Kd.R_slice HO288.out)); (try (subst eo42)); (try (obtain ⟨_, _, hraw40, _, _, hcc40, _⟩ := Kd.H_raw HH38.out (of_decide_eq_true (by first | (with_reducible assumption) | assumption)) (by have h_ : ((ji29) : Int) < ((x5_1.length : Int) : Int) := of_decide_eq_true (by first | (with_reducible assumption) | assumption); first | exact h_ | (have e_ := (HN38.out); omega) | simpa using h_))); (try (obtain ⟨_, hfr40⟩ := Kd.H_at HH38.out (of_decide_eq_true (by first | (with_reducible assumption) | assumption)) (by have h_ : ((ji29) : Int) < ((x5_1.length : Int) : Int) := of_decide_eq_true (by first | (with_reducible assumption) | assumption); first | exact h_ | (have e_ := (HN38.out); omega) | simpa using h_))); (try (have hx40_0 := hcc40 0 _ rfl)); (try (have hf40_0 := hfr40 0)); (try (try simp only [Nat.add_zero] at hx40_0 hf40_0)); (try (try rw [show ((Kd.slice 9 Kd.string)).sz = 1 from rfl, Nat.mul_one] at hx40_0)); (try (try rw [show ((Kd.slice 9 Kd.string)).sz = 1 from rfl, Nat.mul_one] at hf40_0)); (try (have HP40 := Kd.S_seg0 HH38.out (of_decide_eq_true (by first | (with_reducible assumption) | assumption)) (by have h_ : ((ji29) : Int) < ((x5_1.length : Int) : Int) := of_decide_eq_true (by first | (with_reducible assumption) | assumption); first | exact h_ | (have e_ := (HN38.out); omega) | simpa using h_) (seg := [.slice Ao42 y286.length co42]) (j := 0) (show 1 ≤ 1 from by decide) (x' := y286) (Kd.M_row HO288.out) (fun _ hk => hk))); (try (try simp only [show ((Kd.slice 9 Kd.string)).sz = 1 from rfl, Nat.mul_one, Nat.add_zero] at HP40)); (try (clear hcc40 hfr40)))); refine store_event (t := 43) (p := 54) (v := ?vo_w41) (w1 := (w39.setCell ⟨go38, ((ji29) : Int).toNat, none⟩ (.slice Ao42 y286.length co42))) ?hg ?ho ?hn ?hr ?_; (case ho => rfl); (case hg => rfl); (case hn => rfl); (case hr => first | (go_simp; done) | (go_simp; rfl)); intro w41 hw; have hg : w39.grownBy w41 (some go38) := (by rw [hw]; exact HP40.2); have hp_ : Kd.S (Kd.slice 9 Kd.string) 43 w41 w.heap.size (fun k_ => some k_ ≠ (.slice (some ad276) y272.length co36 : Value).ownBlock) (.slice (some ⟨go38, 0, none⟩) x5_1.length co37) y289 := (by rw [hw, Ny289.out]; exact HP40.1); clear HP40; have n0_ := Aside0.mk (Kd.R_over' (v := (.slice (some ⟨go38, 0, none⟩) x5_1.length co37)) (by (with_reducible repeat (first | apply Kd.R_alloc | apply Kd.R_drewN | apply Kd.R_drew)); exact HO274.out) (Kd.R_typed hraw40) (by decide) hg); have n1_ := Aside0.mk ((by rw [hw]; exact below_set HB.out GB38.out : Below w.heap.size w w41)); have n2_ := Aside0.mk (hp_); clear HO274; clear HB; clear HO288; clear HH38; have HO274 := n0_; have HB := n1_; have HO_5 := n2_; clear n0_ n1_ n2_; clear hg hw hp_ hraw40)))
                              go_roundg kj2
                              case measure => have := HK1.out; have := HJ2.out; omega
                              case rel => exact ⟨(y289), (wrap64 (x6_1 + 1)), (by first | rfl | (simp; done) | (simp [*]; done)), H', ⟨by have := HK1.out; have := HJ2.out; omega⟩, ⟨by (with_reducible repeat (first | apply Kd.S_alloc | apply Kd.S_drewN | apply Kd.S_drew)); exact Kd.S_mono HO_5.out (fun _ hk => trivial)⟩, ⟨by repeat (first | (with_reducible first | exact HB.out | apply below_alloc | apply pw_below_drewN | apply below_drew1) | exact HB.out)⟩⟩
                            · rw [if_neg c32] at H
                              exact absurd H (by simp)
                          · rw [if_neg c31] at H
                            exact absurd H (by simp)
                        · rw [if_neg c30] at H
                          exact absurd H (by simp)
                  · rw [if_neg c10] at H
                    exact absurd H (by simp)
                · rw [if_neg c9] at H
                  exact absurd H (by simp)
              · rw [if_neg c7] at H
                exact absurd H (by simp)
            · rw [if_neg c6] at H
              exact absurd H (by simp)
          · replace c5 := Bool.eq_false_iff.mpr c5
            subst c5
            have H1 : ((words_Join.f kj2 x5_1).bind fun t290 => ((words_Lines.f kj2 t290).bind fun bt291 => ((railplanlaw3_awake.f kj2).bind fun t296 => (if t296 = true then (if bt291.2.2 = 0 then (railplanlaw3_WordsRoundTrip.j2 kj2 x5_1 bt291.1 ((bt291.1.length : Int) != (x5_1.length : Int))) else (railplanlaw3_WordsRoundTrip.j2 kj2 x5_1 bt291.1 true)) else (railplanlaw3_WordsRoundTrip.j2 kj2 x5_1 bt291.1 true))))) = some r := by rw [if_neg (show ¬ (false = true) by decide)] at H; exact H
            clear H
            have H := H1
            clear H1
            replace H := Option.bind_eq_some_iff.mp H
            obtain ⟨t290, A430, H⟩ := H
            replace H : ((words_Lines.f kj2 t290).bind fun bt291 => ((railplanlaw3_awake.f kj2).bind fun t296 => (if t296 = true then (if bt291.2.2 = 0 then (railplanlaw3_WordsRoundTrip.j2 kj2 x5_1 bt291.1 ((bt291.1.length : Int) != (x5_1.length : Int))) else (railplanlaw3_WordsRoundTrip.j2 kj2 x5_1 bt291.1 true)) else (railplanlaw3_WordsRoundTrip.j2 kj2 x5_1 bt291.1 true)))) = some r := H
            have A43 := Aside0.mk A430
            clear A430
            replace H := Option.bind_eq_some_iff.mp H
            obtain ⟨⟨t291, t292, t293⟩, A440, H⟩ := H
            replace H : ((railplanlaw3_awake.f kj2).bind fun t296 => (if t296 = true then (if t293 = 0 then (railplanlaw3_WordsRoundTrip.j2 kj2 x5_1 t291 ((t291.length : Int) != (x5_1.length : Int))) else (railplanlaw3_WordsRoundTrip.j2 kj2 x5_1 t291 true)) else (railplanlaw3_WordsRoundTrip.j2 kj2 x5_1 t291 true))) = some r := H
            have A44 := Aside0.mk A440
            clear A440
            have HC45 := Aside0.mk H
            clear H
            obtain ⟨Ao46, co46, eo46⟩ := Kd.S_slice HO_5.out
            subst eo46
            go_upto_region 10 with (first | (go_at_call 26; (with_reducible refine (words_Join.calls kj2 _ _ x5_1 t290 _ ?side1 ?side2 A43.out).mono ?_); (case side1 => repeat (first | exact (Kd.S_reads' HO_5.out).2.2 | (with_reducible refine Kd.C_alloc ?_ _) | (with_reducible refine Kd.C_drewN ?_ _) | (with_reducible refine Kd.C_drew ?_))); (case side2 => exact (Kd.S_reads' HO_5.out).2.1); rintro e w47 ⟨rfl, hb⟩; have n0_ := Aside0.mk (Kd.S_below (by (with_reducible repeat (first | apply Kd.S_alloc | apply Kd.S_drewN | apply Kd.S_drew)); exact HO_5.out) hb); have n1_ := Aside0.mk (below_step (by repeat (first | (with_reducible first | exact HB.out | apply below_alloc | apply pw_below_drewN | apply below_drew1) | exact HB.out)) hb); clear HO_5; clear HB; have HO_5 := n0_; have HB := n1_; clear n0_ n1_; (try clear hb); (try clear hb2); (try clear hk); (try clear hi)) | (go_at_call 13; (with_reducible refine (words_Lines.calls kj2 t290 t291 t292 t293 _ ?side1 A44.out).mono ?_); (case side1 => exact ⟨hL_.out.below (by repeat (first | (with_reducible first | exact HB.out | apply below_alloc | apply pw_below_drewN | apply below_drew1) | exact HB.out))⟩); rintro e w48 ⟨v294, rfl, ho0, hb⟩; have n0_ := Aside0.mk (Kd.S_below (by (with_reducible repeat (first | apply Kd.S_alloc | apply Kd.S_drewN | apply Kd.S_drew)); exact HO_5.out) hb); have n1_ := Aside0.mk (Kd.S_lower ho0 (below_size (by repeat (first | (with_reducible first | exact HB.out | apply below_alloc | apply pw_below_drewN | apply below_drew1) | exact HB.out)))); have n2_ := Aside0.mk (below_step (by repeat (first | (with_reducible first | exact HB.out | apply below_alloc | apply pw_below_drewN | apply below_drew1) | exact HB.out)) hb); clear HO_5; clear HB; have HO_5 := n0_; have HO295 := n1_; have HB := n2_; clear n0_ n1_ n2_; (try clear hb); (try clear hb2); (try clear hk); (try clear hi); (try clear ho0)))
            repeat (go_quiet (first | (go_at_call 26; (with_reducible refine (words_Join.calls kj2 _ _ x5_1 t290 _ ?side1 ?side2 A43.out).mono ?_); (case side1 => repeat (first | exact (Kd.S_reads' HO_5.out).2.2 | (with_reducible refine Kd.C_alloc ?_ _) | (with_reducible refine Kd.C_drewN ?_ _) | (with_reducible refine Kd.C_drew ?_))); (case side2 => exact (Kd.S_reads' HO_5.out).2.1); rintro e w47 ⟨rfl, hb⟩; have n0_ := Aside0.mk (Kd.S_below (by (with_reducible repeat (first | apply Kd.S_alloc | apply Kd.S_drewN | apply Kd.S_drew)); exact HO_5.out) hb); have n1_ := Aside0.mk (below_step (by repeat (first | (with_reducible first | exact HB.out | apply below_alloc | apply pw_below_drewN | apply below_drew1) | exact HB.out)) hb); clear HO_5; clear HB; have HO_5 := n0_; have HB := n1_; clear n0_ n1_; (try clear hb); (try clear hb2); (try clear hk); (try clear hi)) | (go_at_call 13; (with_reducible refine (words_Lines.calls kj2 t290 t291 t292 t293 _ ?side1 A44.out).mono ?_); (case side1 => exact ⟨hL_.out.below (by repeat (first | (with_reducible first | exact HB.out | apply below_alloc | apply pw_below_drewN | apply below_drew1) | exact HB.out))⟩); rintro e w48 ⟨v294, rfl, ho0, hb⟩; have n0_ := Aside0.mk (Kd.S_below (by (with_reducible repeat (first | apply Kd.S_alloc | apply Kd.S_drewN | apply Kd.S_drew)); exact HO_5.out) hb); have n1_ := Aside0.mk (Kd.S_lower ho0 (below_size (by repeat (first | (with_reducible first | exact HB.out | apply below_alloc | apply pw_below_drewN | apply below_drew1) | exact HB.out)))); have n2_ := Aside0.mk (below_step (by repeat (first | (with_reducible first | exact HB.out | apply below_alloc | apply pw_below_drewN | apply below_drew1) | exact HB.out)) hb); clear HO_5; clear HB; have HO_5 := n0_; have HO295 := n1_; have HB := n2_; clear n0_ n1_ n2_; (try clear hb); (try clear hb2); (try clear hk); (try clear hi); (try clear ho0))); go_upto_region 10 with (first | (go_at_call 26; (with_reducible refine (words_Join.calls kj2 _ _ x5_1 t290 _ ?side1 ?side2 A43.out).mono ?_); (case side1 => repeat (first | exact (Kd.S_reads' HO_5.out).2.2 | (with_reducible refine Kd.C_alloc ?_ _) | (with_reducible refine Kd.C_drewN ?_ _) | (with_reducible refine Kd.C_drew ?_))); (case side2 => exact (Kd.S_reads' HO_5.out).2.1); rintro e w47 ⟨rfl, hb⟩; have n0_ := Aside0.mk (Kd.S_below (by (with_reducible repeat (first | apply Kd.S_alloc | apply Kd.S_drewN | apply Kd.S_drew)); exact HO_5.out) hb); have n1_ := Aside0.mk (below_step (by repeat (first | (with_reducible first | exact HB.out | apply below_alloc | apply pw_below_drewN | apply below_drew1) | exact HB.out)) hb); clear HO_5; clear HB; have HO_5 := n0_; have HB := n1_; clear n0_ n1_; (try clear hb); (try clear hb2); (try clear hk); (try clear hi)) | (go_at_call 13; (with_reducible refine (words_Lines.calls kj2 t290 t291 t292 t293 _ ?side1 A44.out).mono ?_); (case side1 => exact ⟨hL_.out.below (by repeat (first | (with_reducible first | exact HB.out | apply below_alloc | apply pw_below_drewN | apply below_drew1) | exact HB.out))⟩); rintro e w48 ⟨v294, rfl, ho0, hb⟩; have n0_ := Aside0.mk (Kd.S_below (by (with_reducible repeat (first | apply Kd.S_alloc | apply Kd.S_drewN | apply Kd.S_drew)); exact HO_5.out) hb); have n1_ := Aside0.mk (Kd.S_lower ho0 (below_size (by repeat (first | (with_reducible first | exact HB.out | apply below_alloc | apply pw_below_drewN | apply below_drew1) | exact HB.out)))); have n2_ := Aside0.mk (below_step (by repeat (first | (with_reducible first | exact HB.out | apply below_alloc | apply pw_below_drewN | apply below_drew1) | exact HB.out)) hb); clear HO_5; clear HB; have HO_5 := n0_; have HO295 := n1_; have HB := n2_; clear n0_ n1_ n2_; (try clear hb); (try clear hb2); (try clear hk); (try clear hi); (try clear ho0))))
            (try simp only [Act.put, List.setIfInBounds_toArray, List.set_cons_zero, List.set_cons_succ])
            go_cut [74] (fun v74 wc => ∃ (kq : Nat) (x74_44 : Bool), v74 = .bool x74_44 ∧ Aside0 (railplanlaw3_WordsRoundTrip.j2 kq x5_1 t291 x74_44 = some r) ∧ Aside0 (kq ≤ kj2) ∧ Aside0 (Kd.S (Kd.slice 9 Kd.string) 43 wc w.heap.size (fun _ => True) (.slice Ao46 x5_1.length co46) x5_1) ∧ Aside0 (Kd.S (Kd.slice 32 k32) 33 wc w.heap.size (fun _ => True) v294 t291) ∧ Aside0 (Below w.heap.size w wc))
            case first =>
              have H := HC45.out
              clear HC45
              replace H := Option.bind_eq_some_iff.mp H
              obtain ⟨t296, A490, H⟩ := H
              replace H : (if t296 = true then (if t293 = 0 then (railplanlaw3_WordsRoundTrip.j2 kj2 x5_1 t291 ((t291.length : Int) != (x5_1.length : Int))) else (railplanlaw3_WordsRoundTrip.j2 kj2 x5_1 t291 true)) else (railplanlaw3_WordsRoundTrip.j2 kj2 x5_1 t291 true)) = some r := H
              have A49 := Aside0.mk A490
              clear A490
              by_cases c50 : t296 = true
              · subst c50
                have H1 : (if t293 = 0 then (railplanlaw3_WordsRoundTrip.j2 kj2 x5_1 t291 ((t291.length : Int) != (x5_1.length : Int))) else (railplanlaw3_WordsRoundTrip.j2 kj2 x5_1 t291 true)) = some r := by rw [if_pos rfl] at H; exact H
                clear H
                have H := H1
                clear H1
                by_cases c51 : t293 = 0
                · rw [if_pos c51] at H
                  have c51b0 : (t293 == 0) = true := beq_iff_eq.mpr c51
                  have c51b1 : (t293 != 0) = false := bne_eq_false_iff_eq.mpr c51
                  clear c51
                  (first | rw [c51b0] | (simp only [i64_w, i32_w]; rw [c51b0]) | rw [c51b1] | skip)
                  have H' := Aside0.mk H
                  clear H
                  go_wp2_with (first | (go_at_call 18; (with_reducible refine (railplanlaw3_awake.calls kj2  true _ ?side1 A49.out).mono ?_); (case side1 => exact ⟨hL_.out.below (by repeat (first | (with_reducible first | exact HB.out | apply below_alloc | apply pw_below_drewN | apply below_drew1) | exact HB.out))⟩); rintro e w52 ⟨rfl, hb⟩; have n0_ := Aside0.mk (Kd.S_below (by (with_reducible repeat (first | apply Kd.S_alloc | apply Kd.S_drewN | apply Kd.S_drew)); exact HO_5.out) hb); have n1_ := Aside0.mk (Kd.S_below (by (with_reducible repeat (first | apply Kd.S_alloc | apply Kd.S_drewN | apply Kd.S_drew)); exact HO295.out) hb); have n2_ := Aside0.mk (below_step (by repeat (first | (with_reducible first | exact HB.out | apply below_alloc | apply pw_below_drewN | apply below_drew1) | exact HB.out)) hb); clear HO_5; clear HO295; clear HB; have HO_5 := n0_; have HO295 := n1_; have HB := n2_; clear n0_ n1_ n2_; (try clear hb); (try clear hb2); (try clear hk); (try clear hi); obtain ⟨Ao53, co53, eo53⟩ := Kd.S_slice HO295.out; subst eo53))
                  repeat (go_quiet (first | (go_at_call 18; (with_reducible refine (railplanlaw3_awake.calls kj2  true _ ?side1 A49.out).mono ?_); (case side1 => exact ⟨hL_.out.below (by repeat (first | (with_reducible first | exact HB.out | apply below_alloc | apply pw_below_drewN | apply below_drew1) | exact HB.out))⟩); rintro e w52 ⟨rfl, hb⟩; have n0_ := Aside0.mk (Kd.S_below (by (with_reducible repeat (first | apply Kd.S_alloc | apply Kd.S_drewN | apply Kd.S_drew)); exact HO_5.out) hb); have n1_ := Aside0.mk (Kd.S_below (by (with_reducible repeat (first | apply Kd.S_alloc | apply Kd.S_drewN | apply Kd.S_drew)); exact HO295.out) hb); have n2_ := Aside0.mk (below_step (by repeat (first | (with_reducible first | exact HB.out | apply below_alloc | apply pw_below_drewN | apply below_drew1) | exact HB.out)) hb); clear HO_5; clear HO295; clear HB; have HO_5 := n0_; have HO295 := n1_; have HB := n2_; clear n0_ n1_ n2_; (try clear hb); (try clear hb2); (try clear hk); (try clear hi); obtain ⟨Ao53, co53, eo53⟩ := Kd.S_slice HO295.out; subst eo53)); try go_wp2_with (first | (go_at_call 18; (with_reducible refine (railplanlaw3_awake.calls kj2  true _ ?side1 A49.out).mono ?_); (case side1 => exact ⟨hL_.out.below (by repeat (first | (with_reducible first | exact HB.out | apply below_alloc | apply pw_below_drewN | apply below_drew1) | exact HB.out))⟩); rintro e w52 ⟨rfl, hb⟩; have n0_ := Aside0.mk (Kd.S_below (by (with_reducible repeat (first | apply Kd.S_alloc | apply Kd.S_drewN | apply Kd.S_drew)); exact HO_5.out) hb); have n1_ := Aside0.mk (Kd.S_below (by (with_reducible repeat (first | apply Kd.S_alloc | apply Kd.S_drewN | apply Kd.S_drew)); exact HO295.out) hb); have n2_ := Aside0.mk (below_step (by repeat (first | (with_reducible first | exact HB.out | apply below_alloc | apply pw_below_drewN | apply below_drew1) | exact HB.out)) hb); clear HO_5; clear HO295; clear HB; have HO_5 := n0_; have HO295 := n1_; have HB := n2_; clear n0_ n1_ n2_; (try clear hb); (try clear hb2); (try clear hk); (try clear hi); obtain ⟨Ao53, co53, eo53⟩ := Kd.S_slice HO295.out; subst eo53)))
                  go_meet
                  case rel => exact ⟨_, (((t291.length : Int) != (x5_1.length : Int))), (by first | rfl | (simp; done) | (simp [*]; done)), H', ⟨by have := HK1.out; have := HJ2.out; first | omega | exact Nat.le_refl _⟩, ⟨by (with_reducible repeat (first | apply Kd.S_alloc | apply Kd.S_drewN | apply Kd.S_drew)); exact HO_5.out⟩, ⟨by (with_reducible repeat (first | apply Kd.S_alloc | apply Kd.S_drewN | apply Kd.S_drew)); exact HO295.out⟩, ⟨by repeat (first | (with_reducible first | exact HB.out | apply below_alloc | apply pw_below_drewN | apply below_drew1) | exact HB.out)⟩⟩
                · rw [if_neg c51] at H
                  have c51b0 : (t293 == 0) = false := beq_eq_false_iff_ne.mpr c51
                  have c51b1 : (t293 != 0) = true := bne_iff_ne.mpr c51
                  (first | rw [c51b0] | (simp only [i64_w, i32_w]; rw [c51b0]) | rw [c51b1] | skip)
                  have H' := Aside0.mk H
                  clear H
                  go_wp2_with (first | (go_at_call 18; (with_reducible refine (railplanlaw3_awake.calls kj2  true _ ?side1 A49.out).mono ?_); (case side1 => exact ⟨hL_.out.below (by repeat (first | (with_reducible first | exact HB.out | apply below_alloc | apply pw_below_drewN | apply below_drew1) | exact HB.out))⟩); rintro e w54 ⟨rfl, hb⟩; have n0_ := Aside0.mk (Kd.S_below (by (with_reducible repeat (first | apply Kd.S_alloc | apply Kd.S_drewN | apply Kd.S_drew)); exact HO_5.out) hb); have n1_ := Aside0.mk (Kd.S_below (by (with_reducible repeat (first | apply Kd.S_alloc | apply Kd.S_drewN | apply Kd.S_drew)); exact HO295.out) hb); have n2_ := Aside0.mk (below_step (by repeat (first | (with_reducible first | exact HB.out | apply below_alloc | apply pw_below_drewN | apply below_drew1) | exact HB.out)) hb); clear HO_5; clear HO295; clear HB; have HO_5 := n0_; have HO295 := n1_; have HB := n2_; clear n0_ n1_ n2_; (try clear hb); (try clear hb2); (try clear hk); (try clear hi)))
                  repeat (go_quiet (first | (go_at_call 18; (with_reducible refine (railplanlaw3_awake.calls kj2  true _ ?side1 A49.out).mono ?_); (case side1 => exact ⟨hL_.out.below (by repeat (first | (with_reducible first | exact HB.out | apply below_alloc | apply pw_below_drewN | apply below_drew1) | exact HB.out))⟩); rintro e w54 ⟨rfl, hb⟩; have n0_ := Aside0.mk (Kd.S_below (by (with_reducible repeat (first | apply Kd.S_alloc | apply Kd.S_drewN | apply Kd.S_drew)); exact HO_5.out) hb); have n1_ := Aside0.mk (Kd.S_below (by (with_reducible repeat (first | apply Kd.S_alloc | apply Kd.S_drewN | apply Kd.S_drew)); exact HO295.out) hb); have n2_ := Aside0.mk (below_step (by repeat (first | (with_reducible first | exact HB.out | apply below_alloc | apply pw_below_drewN | apply below_drew1) | exact HB.out)) hb); clear HO_5; clear HO295; clear HB; have HO_5 := n0_; have HO295 := n1_; have HB := n2_; clear n0_ n1_ n2_; (try clear hb); (try clear hb2); (try clear hk); (try clear hi))); try go_wp2_with (first | (go_at_call 18; (with_reducible refine (railplanlaw3_awake.calls kj2  true _ ?side1 A49.out).mono ?_); (case side1 => exact ⟨hL_.out.below (by repeat (first | (with_reducible first | exact HB.out | apply below_alloc | apply pw_below_drewN | apply below_drew1) | exact HB.out))⟩); rintro e w54 ⟨rfl, hb⟩; have n0_ := Aside0.mk (Kd.S_below (by (with_reducible repeat (first | apply Kd.S_alloc | apply Kd.S_drewN | apply Kd.S_drew)); exact HO_5.out) hb); have n1_ := Aside0.mk (Kd.S_below (by (with_reducible repeat (first | apply Kd.S_alloc | apply Kd.S_drewN | apply Kd.S_drew)); exact HO295.out) hb); have n2_ := Aside0.mk (below_step (by repeat (first | (with_reducible first | exact HB.out | apply below_alloc | apply pw_below_drewN | apply below_drew1) | exact HB.out)) hb); clear HO_5; clear HO295; clear HB; have HO_5 := n0_; have HO295 := n1_; have HB := n2_; clear n0_ n1_ n2_; (try clear hb); (try clear hb2); (try clear hk); (try clear hi))))
                  go_meet
                  case rel => exact ⟨_, (true), (by first | rfl | (simp; done) | (simp [*]; done)), H', ⟨by have := HK1.out; have := HJ2.out; first | omega | exact Nat.le_refl _⟩, ⟨by (with_reducible repeat (first | apply Kd.S_alloc | apply Kd.S_drewN | apply Kd.S_drew)); exact HO_5.out⟩, ⟨by (with_reducible repeat (first | apply Kd.S_alloc | apply Kd.S_drewN | apply Kd.S_drew)); exact HO295.out⟩, ⟨by repeat (first | (with_reducible first | exact HB.out | apply below_alloc | apply pw_below_drewN | apply below_drew1) | exact HB.out)⟩⟩
              · replace c50 := Bool.eq_false_iff.mpr c50
                subst c50
                have H1 : (railplanlaw3_WordsRoundTrip.j2 kj2 x5_1 t291 true) = some r := by rw [if_neg (show ¬ (false = true) by decide)] at H; exact H
                clear H
                have H := H1
                clear H1
                have H' := Aside0.mk H
                clear H
                go_wp2_with (first | (go_at_call 18; (with_reducible refine (railplanlaw3_awake.calls kj2  false _ ?side1 A49.out).mono ?_); (case side1 => exact ⟨hL_.out.below (by repeat (first | (with_reducible first | exact HB.out | apply below_alloc | apply pw_below_drewN | apply below_drew1) | exact HB.out))⟩); rintro e w55 ⟨rfl, hb⟩; have n0_ := Aside0.mk (Kd.S_below (by (with_reducible repeat (first | apply Kd.S_alloc | apply Kd.S_drewN | apply Kd.S_drew)); exact HO_5.out) hb); have n1_ := Aside0.mk (Kd.S_below (by (with_reducible repeat (first | apply Kd.S_alloc | apply Kd.S_drewN | apply Kd.S_drew)); exact HO295.out) hb); have n2_ := Aside0.mk (below_step (by repeat (first | (with_reducible first | exact HB.out | apply below_alloc | apply pw_below_drewN | apply below_drew1) | exact HB.out)) hb); clear HO_5; clear HO295; clear HB; have HO_5 := n0_; have HO295 := n1_; have HB := n2_; clear n0_ n1_ n2_; (try clear hb); (try clear hb2); (try clear hk); (try clear hi)))
                repeat (go_quiet (first | (go_at_call 18; (with_reducible refine (railplanlaw3_awake.calls kj2  false _ ?side1 A49.out).mono ?_); (case side1 => exact ⟨hL_.out.below (by repeat (first | (with_reducible first | exact HB.out | apply below_alloc | apply pw_below_drewN | apply below_drew1) | exact HB.out))⟩); rintro e w55 ⟨rfl, hb⟩; have n0_ := Aside0.mk (Kd.S_below (by (with_reducible repeat (first | apply Kd.S_alloc | apply Kd.S_drewN | apply Kd.S_drew)); exact HO_5.out) hb); have n1_ := Aside0.mk (Kd.S_below (by (with_reducible repeat (first | apply Kd.S_alloc | apply Kd.S_drewN | apply Kd.S_drew)); exact HO295.out) hb); have n2_ := Aside0.mk (below_step (by repeat (first | (with_reducible first | exact HB.out | apply below_alloc | apply pw_below_drewN | apply below_drew1) | exact HB.out)) hb); clear HO_5; clear HO295; clear HB; have HO_5 := n0_; have HO295 := n1_; have HB := n2_; clear n0_ n1_ n2_; (try clear hb); (try clear hb2); (try clear hk); (try clear hi))); try go_wp2_with (first | (go_at_call 18; (with_reducible refine (railplanlaw3_awake.calls kj2  false _ ?side1 A49.out).mono ?_); (case side1 => exact ⟨hL_.out.below (by repeat (first | (with_reducible first | exact HB.out | apply below_alloc | apply pw_below_drewN | apply below_drew1) | exact HB.out))⟩); rintro e w55 ⟨rfl, hb⟩; have n0_ := Aside0.mk (Kd.S_below (by (with_reducible repeat (first | apply Kd.S_alloc | apply Kd.S_drewN | apply Kd.S_drew)); exact HO_5.out) hb); have n1_ := Aside0.mk (Kd.S_below (by (with_reducible repeat (first | apply Kd.S_alloc | apply Kd.S_drewN | apply Kd.S_drew)); exact HO295.out) hb); have n2_ := Aside0.mk (below_step (by repeat (first | (with_reducible first | exact HB.out | apply below_alloc | apply pw_below_drewN | apply below_drew1) | exact HB.out)) hb); clear HO_5; clear HO295; clear HB; have HO_5 := n0_; have HO295 := n1_; have HB := n2_; clear n0_ n1_ n2_; (try clear hb); (try clear hb2); (try clear hk); (try clear hi))))
                go_meet
                case rel => exact ⟨_, (true), (by first | rfl | (simp; done) | (simp [*]; done)), H', ⟨by have := HK1.out; have := HJ2.out; first | omega | exact Nat.le_refl _⟩, ⟨by (with_reducible repeat (first | apply Kd.S_alloc | apply Kd.S_drewN | apply Kd.S_drew)); exact HO_5.out⟩, ⟨by (with_reducible repeat (first | apply Kd.S_alloc | apply Kd.S_drewN | apply Kd.S_drew)); exact HO295.out⟩, ⟨by repeat (first | (with_reducible first | exact HB.out | apply below_alloc | apply pw_below_drewN | apply below_drew1) | exact HB.out)⟩⟩
            case rest =>
              clear HC45
              try clear c1
              try clear p1
              try clear q1
              try clear c2
              try clear p2
              try clear q2
              try clear hx2
              try clear hf2
              try clear c3
              try clear p3
              try clear q3
              try clear c4
              try clear c4b0
              try clear c4b1
              try clear hx4
              try clear hf4
              try clear c5
              try clear c6
              try clear c6b0
              try clear p6
              try clear c7
              try clear c7b0
              try clear c9
              try clear c9b0
              try clear c10
              try clear c10b0
              try clear c11
              try clear c11b0
              try clear c11b1
              try clear c12
              try clear c12b0
              try clear c12b1
              try clear c13
              try clear c15
              try clear c15b0
              try clear c16
              try clear c16b0
              try clear c17
              try clear p18
              try clear q18
              try clear c24
              try clear c26
              try clear hx26
              try clear hf26
              try clear p27
              try clear q27
              try clear hx27
              try clear c28
              try clear p28
              try clear q28
              try clear hx28
              try clear c30
              try clear c30b0
              try clear c31
              try clear c31b0
              try clear c32
              try clear p33
              try clear q33
              try clear c38
              try clear c40
              try clear hx40
              try clear hf40
              try clear c50
              try clear c51
              try clear c51b0
              try clear c51b1
              try clear hx26_0
              try clear hx275_0
              try clear hx276_0
              try clear hx280_0
              try clear hx285_0
              try clear hx40_0
              try clear p18
              try clear p2
              try clear p275
              try clear p276
              try clear p280
              try clear p285
              try clear p33
              try clear q18
              try clear q275
              try clear q276
              try clear q280
              try clear q285
              try clear q33
              obtain ⟨kq, x74_44, rfl, HA, HJ44, HO_5, HO_8, HB⟩ := hcut
              cases kq with
              | zero => exact absurd HA.out (by simp [railplanlaw3_WordsRoundTrip.j2])
              | succ kj44 =>
                have H := HA.out
                clear HA
                simp only [railplanlaw3_WordsRoundTrip.j2] at H
                by_cases c56 : x74_44 = true
                · subst c56
                  have H1 : (some false) = some r := by rw [if_pos rfl] at H; exact H
                  clear H
                  have H := H1
                  clear H1
                  obtain rfl := Option.some.inj H
                  exact absurd hr_.out (by decide)
                · replace c56 := Bool.eq_false_iff.mpr c56
                  subst c56
                  have H1 : (railplanlaw3_WordsRoundTrip.l1 kj44 x5_1 t291 (t291.length : Int) 0) = some r := by rw [if_neg (show ¬ (false = true) by decide)] at H; exact H
                  clear H
                  have H := H1
                  clear H1
                  have H' := Aside0.mk H
                  clear H
                  obtain ⟨Ao57, co57, eo57⟩ := Kd.S_slice HO_8.out
                  subst eo57
                  go_wp2
                  repeat (go_quiet (fail); try go_wp2)
                  go_loopg [77] kj44 (fun kq v77 w' => ∃ (x77_4 : Int), v77 = .int .i64 x77_4 ∧ Aside0 (railplanlaw3_WordsRoundTrip.l1 kq x5_1 t291 (t291.length : Int) x77_4 = some r) ∧ Aside0 (kq ≤ kj44) ∧ Aside0 (Kd.S (Kd.slice 9 Kd.string) 43 w' w.heap.size (fun _ => True) (.slice Ao46 x5_1.length co46) x5_1) ∧ Aside0 (Kd.S (Kd.slice 32 k32) 33 w' w.heap.size (fun _ => True) (.slice Ao57 t291.length co57) t291) ∧ Aside0 (Below w.heap.size w w'))
                  case atStart => exact ⟨(0), (by first | rfl | (simp; done) | (simp [*]; done)), H', ⟨Nat.le_refl _⟩, ⟨by (with_reducible repeat (first | apply Kd.S_alloc | apply Kd.S_drewN | apply Kd.S_drew)); exact HO_5.out⟩, ⟨by (with_reducible repeat (first | apply Kd.S_alloc | apply Kd.S_drewN | apply Kd.S_drew)); exact HO_8.out⟩, ⟨by repeat (first | (with_reducible first | exact HB.out | apply below_alloc | apply pw_below_drewN | apply below_drew1) | exact HB.out)⟩⟩
                  case round =>
                    clear H'
                    try clear c1
                    try clear p1
                    try clear q1
                    try clear c2
                    try clear p2
                    try clear q2
                    try clear hx2
                    try clear hf2
                    try clear c3
                    try clear p3
                    try clear q3
                    try clear c4
                    try clear c4b0
                    try clear c4b1
                    try clear hx4
                    try clear hf4
                    try clear c5
                    try clear c6
                    try clear c6b0
                    try clear p6
                    try clear c7
                    try clear c7b0
                    try clear c9
                    try clear c9b0
                    try clear c10
                    try clear c10b0
                    try clear c11
                    try clear c11b0
                    try clear c11b1
                    try clear c12
                    try clear c12b0
                    try clear c12b1
                    try clear c13
                    try clear c15
                    try clear c15b0
                    try clear c16
                    try clear c16b0
                    try clear c17
                    try clear p18
                    try clear q18
                    try clear c24
                    try clear c26
                    try clear hx26
                    try clear hf26
                    try clear p27
                    try clear q27
                    try clear hx27
                    try clear c28
                    try clear p28
                    try clear q28
                    try clear hx28
                    try clear c30
                    try clear c30b0
                    try clear c31
                    try clear c31b0
                    try clear c32
                    try clear p33
                    try clear q33
                    try clear c38
                    try clear c40
                    try clear hx40
                    try clear hf40
                    try clear c50
                    try clear c51
                    try clear c51b0
                    try clear c51b1
                    try clear c56
                    try clear hx26_0
                    try clear hx275_0
                    try clear hx276_0
                    try clear hx280_0
                    try clear hx285_0
                    try clear hx40_0
                    try clear p1
                    try clear p18
                    try clear p2
                    try clear p27
                    try clear p275
                    try clear p276
                    try clear p28
                    try clear p280
                    try clear p285
                    try clear p3
                    try clear p33
                    try clear p6
                    try clear q1
                    try clear q18
                    try clear q2
                    try clear q27
                    try clear q275
                    try clear q276
                    try clear q28
                    try clear q280
                    try clear q285
                    try clear q3
                    try clear q33
                    obtain ⟨x77_4, rfl, HA, HK4, HO_5, HO_8, HB⟩ := hrel
                    cases gk with
                    | zero => exact absurd HA.out (by simp [railplanlaw3_WordsRoundTrip.l1])
                    | succ k4 =>
                      have H := HA.out
                      clear HA
                      simp only [railplanlaw3_WordsRoundTrip.l1] at H
                      by_cases c58 : x77_4 < (t291.length : Int)
                      · rw [if_pos c58] at H
                        have c58b0 : decide (x77_4 < (t291.length : Int)) = true := decide_eq_true c58
                        clear c58
                        by_cases c59 : 0 ≤ x77_4
                        · rw [if_pos c59] at H
                          have c59b0 : decide (0 ≤ x77_4) = true := decide_eq_true c59
                          clear c59
                          by_cases c60 : x77_4 < (t291.length : Int)
                          · rw [if_pos c60] at H
                            have c60b0 : decide (x77_4 < (t291.length : Int)) = true := decide_eq_true c60
                            clear c60
                            by_cases c61 : x77_4 < (x5_1.length : Int)
                            · rw [if_pos c61] at H
                              have c61b0 : decide (x77_4 < (x5_1.length : Int)) = true := decide_eq_true c61
                              clear c61
                              by_cases c62 : ((rd_L3 t291 x77_4).length : Int) = ((rd_L5 x5_1 x77_4).length : Int)
                              · rw [if_pos c62] at H
                                have c62b0 : (((rd_L3 t291 x77_4).length : Int) == ((rd_L5 x5_1 x77_4).length : Int)) = true := beq_iff_eq.mpr c62
                                have c62b1 : (((rd_L3 t291 x77_4).length : Int) != ((rd_L5 x5_1 x77_4).length : Int)) = false := bne_eq_false_iff_eq.mpr c62
                                have c62b2 : ((rd_L3 t291 x77_4).length == (rd_L5 x5_1 x77_4).length) = true := by first | simpa using c62 | (simp at c62 ⊢; omega)
                                clear c62
                                have H' := Aside0.mk H
                                clear H
                                have p297 : 0 ≤ (x77_4 : Int) := of_decide_eq_true (by first | (with_reducible assumption) | assumption)
                                have q297 : x77_4 < (t291.length : Int) := of_decide_eq_true (by first | (with_reducible assumption) | assumption)
                                obtain ⟨ad297, A297_0, c297_0, e297, hx297_0, hl297_0, hi297_0⟩ := at_L3 (Kd.S_reads' HO_8.out).2.2 x77_4 p297 q297
                                cases e297
                                obtain ⟨ce297, hce297, hMe297, hcc297⟩ := Kd.S_get HO_8.out [] x77_4 p297 (by first | exact q297 | exact of_decide_eq_true (by first | (with_reducible assumption) | assumption) | (have e_ := (Kd.S_reads' HO_8.out).1; omega))
                                obtain ⟨ve297_0, rfl, ge297_0⟩ := hMe297
                                have hv297_0 := hcc297 0 _ rfl
                                rw [Nat.add_zero, show ((Kd.slice 32 k32)).sz = 1 from rfl, Nat.mul_one] at hv297_0
                                replace hv297_0 := Option.some.inj (hv297_0.symm.trans hx297_0)
                                rw [hv297_0] at ge297_0
                                have HL297_0 := Aside0.mk (show Kd.R k32 32 _ _ _ _ (rd_L3 t291 x77_4) from ge297_0)
                                clear hv297_0 ge297_0
                                have HX297_0 := Aside0.mk hx297_0
                                clear hcc297 hce297
                                have HR297_0 := Aside0.mk hi297_0
                                have HC297_0 := Aside0.mk hl297_0
                                clear hi297_0 hl297_0
                                replace p297 := eq_true p297
                                replace q297 := eq_true q297
                                have p298 : 0 ≤ (x77_4 : Int) := of_decide_eq_true (by first | (with_reducible assumption) | assumption)
                                have q298 : x77_4 < (x5_1.length : Int) := of_decide_eq_true (by first | (with_reducible assumption) | assumption)
                                obtain ⟨ad298, A298_0, c298_0, e298, hx298_0, hl298_0, hi298_0⟩ := at_L5 (Kd.S_reads' HO_5.out).2.2 x77_4 p298 q298
                                cases e298
                                obtain ⟨ce298, hce298, hMe298, hcc298⟩ := Kd.S_get HO_5.out [] x77_4 p298 (by first | exact q298 | exact of_decide_eq_true (by first | (with_reducible assumption) | assumption) | (have e_ := (Kd.S_reads' HO_5.out).1; omega))
                                obtain ⟨ve298_0, rfl, ge298_0⟩ := hMe298
                                have hv298_0 := hcc298 0 _ rfl
                                rw [Nat.add_zero, show ((Kd.slice 9 Kd.string)).sz = 1 from rfl, Nat.mul_one] at hv298_0
                                replace hv298_0 := Option.some.inj (hv298_0.symm.trans hx298_0)
                                rw [hv298_0] at ge298_0
                                have HL298_0 := Aside0.mk (show Kd.R Kd.string 9 _ _ _ _ (rd_L5 x5_1 x77_4) from ge298_0)
                                clear hv298_0 ge298_0
                                have HX298_0 := Aside0.mk hx298_0
                                clear hcc298 hce298
                                have HR298_0 := Aside0.mk hi298_0
                                have HC298_0 := Aside0.mk hl298_0
                                clear hi298_0 hl298_0
                                replace p298 := eq_true p298
                                replace q298 := eq_true q298
                                have p299 : 0 ≤ (x77_4 : Int) := of_decide_eq_true (by first | (with_reducible assumption) | assumption)
                                have q299 : x77_4 < (t291.length : Int) := of_decide_eq_true (by first | (with_reducible assumption) | assumption)
                                obtain ⟨ad299, A299_0, c299_0, e299, hx299_0, hl299_0, hi299_0⟩ := at_L3 (Kd.S_reads' HO_8.out).2.2 x77_4 p299 q299
                                obtain rfl : ad297 = ad299 := (by injection e299)
                                obtain ⟨ce299, hce299, hMe299, hcc299⟩ := Kd.S_get HO_8.out [] x77_4 p299 (by first | exact q299 | exact of_decide_eq_true (by first | (with_reducible assumption) | assumption) | (have e_ := (Kd.S_reads' HO_8.out).1; omega))
                                obtain ⟨ve299_0, rfl, ge299_0⟩ := hMe299
                                have hv299_0 := hcc299 0 _ rfl
                                rw [Nat.add_zero, show ((Kd.slice 32 k32)).sz = 1 from rfl, Nat.mul_one] at hv299_0
                                replace hv299_0 := Option.some.inj (hv299_0.symm.trans hx299_0)
                                rw [hv299_0] at ge299_0
                                have HL299_0 := Aside0.mk (show Kd.R k32 32 _ _ _ _ (rd_L3 t291 x77_4) from ge299_0)
                                clear hv299_0 ge299_0
                                have HX299_0 := Aside0.mk hx299_0
                                clear hcc299 hce299
                                have HR299_0 := Aside0.mk hi299_0
                                have HC299_0 := Aside0.mk hl299_0
                                clear hi299_0 hl299_0
                                replace p299 := eq_true p299
                                replace q299 := eq_true q299
                                have ea_ := Option.some.inj (hx297_0.symm.trans hx299_0)
                                injection ea_ with ea_ en_ ec_
                                subst ea_
                                subst ec_
                                clear en_
                                go_wp2
                                repeat (go_quiet (fail); try go_wp2)
                                go_loopg [96] k4 (fun kq v96 w' => ∃ (x96_5 : Int), v96 = .int .i64 x96_5 ∧ Aside0 (railplanlaw3_WordsRoundTrip.l2 kq x5_1 t291 x77_4 (t291.length : Int) x77_4 ((rd_L3 t291 x77_4).length : Int) x96_5 = some r) ∧ Aside0 (kq ≤ k4) ∧ Aside0 (Kd.S (Kd.slice 9 Kd.string) 43 w' w.heap.size (fun _ => True) (.slice (some ad298) x5_1.length co46) x5_1) ∧ Aside0 (Kd.S (Kd.slice 32 k32) 33 w' w.heap.size (fun _ => True) (.slice (some ad297) t291.length co57) t291) ∧ Aside0 (Kd.C k32 w' A297_0 (rd_L3 t291 x77_4).length (rd_L3 t291 x77_4)) ∧ Aside0 (Kd.C Kd.string w' A298_0 (rd_L5 x5_1 x77_4).length (rd_L5 x5_1 x77_4)) ∧ Aside0 (Kd.C k32 w' A297_0 (rd_L3 t291 x77_4).length (rd_L3 t291 x77_4)) ∧ Aside0 (Below w.heap.size w w'))
                                case atStart => exact ⟨(0), (by first | rfl | (simp; done) | (simp [*]; done)), H', ⟨Nat.le_refl _⟩, ⟨by (with_reducible repeat (first | apply Kd.S_alloc | apply Kd.S_drewN | apply Kd.S_drew)); exact HO_5.out⟩, ⟨by (with_reducible repeat (first | apply Kd.S_alloc | apply Kd.S_drewN | apply Kd.S_drew)); exact HO_8.out⟩, ⟨by repeat (first | (with_reducible exact HR297_0.out) | (with_reducible refine Kd.C_alloc ?_ _) | (with_reducible refine Kd.C_drewN ?_ _) | (with_reducible refine Kd.C_drew ?_) | exact HR297_0.out)⟩, ⟨by repeat (first | (with_reducible exact HR298_0.out) | (with_reducible refine Kd.C_alloc ?_ _) | (with_reducible refine Kd.C_drewN ?_ _) | (with_reducible refine Kd.C_drew ?_) | exact HR298_0.out)⟩, ⟨by repeat (first | (with_reducible exact HR299_0.out) | (with_reducible refine Kd.C_alloc ?_ _) | (with_reducible refine Kd.C_drewN ?_ _) | (with_reducible refine Kd.C_drew ?_) | exact HR299_0.out)⟩, ⟨by repeat (first | (with_reducible first | exact HB.out | apply below_alloc | apply pw_below_drewN | apply below_drew1) | exact HB.out)⟩⟩
                                case round =>
                                  clear H'
                                  try clear c1
                                  try clear p1
                                  try clear q1
                                  try clear c2
                                  try clear p2
                                  try clear q2
                                  try clear hx2
                                  try clear hf2
                                  try clear c3
                                  try clear p3
                                  try clear q3
                                  try clear c4
                                  try clear c4b0
                                  try clear c4b1
                                  try clear hx4
                                  try clear hf4
                                  try clear c5
                                  try clear c6
                                  try clear c6b0
                                  try clear p6
                                  try clear c7
                                  try clear c7b0
                                  try clear c9
                                  try clear c9b0
                                  try clear c10
                                  try clear c10b0
                                  try clear c11
                                  try clear c11b0
                                  try clear c11b1
                                  try clear c12
                                  try clear c12b0
                                  try clear c12b1
                                  try clear c13
                                  try clear c15
                                  try clear c15b0
                                  try clear c16
                                  try clear c16b0
                                  try clear c17
                                  try clear p18
                                  try clear q18
                                  try clear c24
                                  try clear c26
                                  try clear hx26
                                  try clear hf26
                                  try clear p27
                                  try clear q27
                                  try clear hx27
                                  try clear c28
                                  try clear p28
                                  try clear q28
                                  try clear hx28
                                  try clear c29
                                  try clear p29
                                  try clear q29
                                  try clear hx29
                                  try clear c30
                                  try clear c30b0
                                  try clear c31
                                  try clear c31b0
                                  try clear c32
                                  try clear p33
                                  try clear q33
                                  try clear c38
                                  try clear c40
                                  try clear hx40
                                  try clear hf40
                                  try clear c50
                                  try clear c51
                                  try clear c51b0
                                  try clear c51b1
                                  try clear c56
                                  try clear c58
                                  try clear c58b0
                                  try clear c59
                                  try clear c59b0
                                  try clear c60
                                  try clear c60b0
                                  try clear c61
                                  try clear c61b0
                                  try clear c62
                                  try clear c62b0
                                  try clear c62b1
                                  try clear c62b2
                                  try clear hx26_0
                                  try clear hx275_0
                                  try clear hx276_0
                                  try clear hx280_0
                                  try clear hx285_0
                                  try clear hx297_0
                                  try clear hx298_0
                                  try clear hx299_0
                                  try clear hx40_0
                                  try clear p1
                                  try clear p18
                                  try clear p2
                                  try clear p27
                                  try clear p275
                                  try clear p276
                                  try clear p28
                                  try clear p280
                                  try clear p285
                                  try clear p297
                                  try clear p298
                                  try clear p299
                                  try clear p3
                                  try clear p33
                                  try clear p6
                                  try clear q1
                                  try clear q18
                                  try clear q2
                                  try clear q27
                                  try clear q275
                                  try clear q276
                                  try clear q28
                                  try clear q280
                                  try clear q285
                                  try clear q297
                                  try clear q298
                                  try clear q299
                                  try clear q3
                                  try clear q33
                                  obtain ⟨x96_5, rfl, HA, HK5, HO_5, HO_8, HR297_0, HR298_0, HR299_0, HB⟩ := hrel
                                  cases gk with
                                  | zero => exact absurd HA.out (by simp [railplanlaw3_WordsRoundTrip.l2])
                                  | succ k5 =>
                                    have H := HA.out
                                    clear HA
                                    simp only [railplanlaw3_WordsRoundTrip.l2] at H
                                    by_cases c63 : x96_5 < ((rd_L3 t291 x77_4).length : Int)
                                    · rw [if_pos c63] at H
                                      have c63b0 : decide (x96_5 < ((rd_L3 t291 x77_4).length : Int)) = true := decide_eq_true c63
                                      clear c63
                                      by_cases c64 : 0 ≤ x77_4
                                      · rw [if_pos c64] at H
                                        have c64b0 : decide (0 ≤ x77_4) = true := decide_eq_true c64
                                        clear c64
                                        by_cases c65 : x77_4 < (t291.length : Int)
                                        · rw [if_pos c65] at H
                                          have c65b0 : decide (x77_4 < (t291.length : Int)) = true := decide_eq_true c65
                                          clear c65
                                          by_cases c66 : 0 ≤ x96_5
                                          · rw [if_pos c66] at H
                                            have c66b0 : decide (0 ≤ x96_5) = true := decide_eq_true c66
                                            clear c66
                                            by_cases c67 : x96_5 < ((rd_L3 t291 x77_4).length : Int)
                                            · rw [if_pos c67] at H
                                              have c67b0 : decide (x96_5 < ((rd_L3 t291 x77_4).length : Int)) = true := decide_eq_true c67
                                              clear c67
                                              by_cases c68 : x77_4 < (x5_1.length : Int)
                                              · rw [if_pos c68] at H
                                                have c68b0 : decide (x77_4 < (x5_1.length : Int)) = true := decide_eq_true c68
                                                clear c68
                                                by_cases c69 : x96_5 < ((rd_L5 x5_1 x77_4).length : Int)
                                                · rw [if_pos c69] at H
                                                  have c69b0 : decide (x96_5 < ((rd_L5 x5_1 x77_4).length : Int)) = true := decide_eq_true c69
                                                  clear c69
                                                  by_cases c70 : ((rd_T32 (rd_L3 t291 x77_4) x96_5).f0).toList = (rdOf ByteArray.empty (rd_L5 x5_1 x77_4) x96_5).toList
                                                  · rw [if_pos c70] at H
                                                    have c70b0 : (((rd_T32 (rd_L3 t291 x77_4) x96_5).f0).toList == (rdOf ByteArray.empty (rd_L5 x5_1 x77_4) x96_5).toList) = true := beq_iff_eq.mpr c70
                                                    have c70b1 : (((rd_T32 (rd_L3 t291 x77_4) x96_5).f0).toList != (rdOf ByteArray.empty (rd_L5 x5_1 x77_4) x96_5).toList) = false := bne_eq_false_iff_eq.mpr c70
                                                    clear c70
                                                    by_cases c71 : ((rd_T32 (rd_L3 t291 x77_4) x96_5).f1) = (wrap64 (x77_4 + 1))
                                                    · rw [if_pos c71] at H
                                                      have c71b0 : (((rd_T32 (rd_L3 t291 x77_4) x96_5).f1) == (wrap64 (x77_4 + 1))) = true := beq_iff_eq.mpr c71
                                                      have c71b1 : (((rd_T32 (rd_L3 t291 x77_4) x96_5).f1) != (wrap64 (x77_4 + 1))) = false := bne_eq_false_iff_eq.mpr c71
                                                      clear c71
                                                      have H' := Aside0.mk H
                                                      clear H
                                                      have p300 : 0 ≤ (x77_4 : Int) := of_decide_eq_true (by first | (with_reducible assumption) | assumption)
                                                      have q300 : x77_4 < (t291.length : Int) := of_decide_eq_true (by first | (with_reducible assumption) | assumption)
                                                      obtain ⟨ad300, A300_0, c300_0, e300, hx300_0, hl300_0, hi300_0⟩ := at_L3 (Kd.S_reads' HO_8.out).2.2 x77_4 p300 q300
                                                      obtain rfl : ad297 = ad300 := (by injection e300)
                                                      obtain ⟨ce300, hce300, hMe300, hcc300⟩ := Kd.S_get HO_8.out [] x77_4 p300 (by first | exact q300 | exact of_decide_eq_true (by first | (with_reducible assumption) | assumption) | (have e_ := (Kd.S_reads' HO_8.out).1; omega))
                                                      obtain ⟨ve300_0, rfl, ge300_0⟩ := hMe300
                                                      have hv300_0 := hcc300 0 _ rfl
                                                      rw [Nat.add_zero, show ((Kd.slice 32 k32)).sz = 1 from rfl, Nat.mul_one] at hv300_0
                                                      replace hv300_0 := Option.some.inj (hv300_0.symm.trans hx300_0)
                                                      rw [hv300_0] at ge300_0
                                                      have HL300_0 := Aside0.mk (show Kd.R k32 32 _ _ _ _ (rd_L3 t291 x77_4) from ge300_0)
                                                      clear hv300_0 ge300_0
                                                      have HX300_0 := Aside0.mk hx300_0
                                                      clear hcc300 hce300
                                                      have HR300_0 := Aside0.mk hi300_0
                                                      have HC300_0 := Aside0.mk hl300_0
                                                      clear hi300_0 hl300_0
                                                      replace p300 := eq_true p300
                                                      replace q300 := eq_true q300
                                                      have p301 : 0 ≤ (x96_5 : Int) := of_decide_eq_true (by first | (with_reducible assumption) | assumption)
                                                      have q301 : x96_5 < ((rd_L3 t291 x77_4).length : Int) := of_decide_eq_true (by first | (with_reducible assumption) | assumption)
                                                      obtain ⟨ad301, e301, hx301_0, hx301_1, hx301_2⟩ := at_T32 (by repeat (first | (with_reducible exact HR300_0.out) | (with_reducible refine Kd.C_alloc ?_ _) | (with_reducible refine Kd.C_drewN ?_ _) | (with_reducible refine Kd.C_drew ?_) | exact HR300_0.out)) x96_5 p301 q301
                                                      cases e301
                                                      replace p301 := eq_true p301
                                                      replace q301 := eq_true q301
                                                      have p302 : 0 ≤ (x77_4 : Int) := of_decide_eq_true (by first | (with_reducible assumption) | assumption)
                                                      have q302 : x77_4 < (x5_1.length : Int) := of_decide_eq_true (by first | (with_reducible assumption) | assumption)
                                                      obtain ⟨ad302, A302_0, c302_0, e302, hx302_0, hl302_0, hi302_0⟩ := at_L5 (Kd.S_reads' HO_5.out).2.2 x77_4 p302 q302
                                                      obtain rfl : ad298 = ad302 := (by injection e302)
                                                      obtain ⟨ce302, hce302, hMe302, hcc302⟩ := Kd.S_get HO_5.out [] x77_4 p302 (by first | exact q302 | exact of_decide_eq_true (by first | (with_reducible assumption) | assumption) | (have e_ := (Kd.S_reads' HO_5.out).1; omega))
                                                      obtain ⟨ve302_0, rfl, ge302_0⟩ := hMe302
                                                      have hv302_0 := hcc302 0 _ rfl
                                                      rw [Nat.add_zero, show ((Kd.slice 9 Kd.string)).sz = 1 from rfl, Nat.mul_one] at hv302_0
                                                      replace hv302_0 := Option.some.inj (hv302_0.symm.trans hx302_0)
                                                      rw [hv302_0] at ge302_0
                                                      have HL302_0 := Aside0.mk (show Kd.R Kd.string 9 _ _ _ _ (rd_L5 x5_1 x77_4) from ge302_0)
                                                      clear hv302_0 ge302_0
                                                      have HX302_0 := Aside0.mk hx302_0
                                                      clear hcc302 hce302
                                                      have HR302_0 := Aside0.mk hi302_0
                                                      have HC302_0 := Aside0.mk hl302_0
                                                      clear hi302_0 hl302_0
                                                      replace p302 := eq_true p302
                                                      replace q302 := eq_true q302
                                                      have p303 : 0 ≤ (x96_5 : Int) := of_decide_eq_true (by first | (with_reducible assumption) | assumption)
                                                      have q303 : x96_5 < ((rd_L5 x5_1 x77_4).length : Int) := of_decide_eq_true (by first | (with_reducible assumption) | assumption)
                                                      obtain ⟨ad303, e303, hx303_0⟩ := Kd.at_string (by repeat (first | (with_reducible exact HR302_0.out) | (with_reducible refine Kd.C_alloc ?_ _) | (with_reducible refine Kd.C_drewN ?_ _) | (with_reducible refine Kd.C_drew ?_) | exact HR302_0.out)) x96_5 p303 q303
                                                      cases e303
                                                      replace p303 := eq_true p303
                                                      replace q303 := eq_true q303
                                                      have p304 : 0 ≤ (x77_4 : Int) := of_decide_eq_true (by first | (with_reducible assumption) | assumption)
                                                      have q304 : x77_4 < (t291.length : Int) := of_decide_eq_true (by first | (with_reducible assumption) | assumption)
                                                      obtain ⟨ad304, A304_0, c304_0, e304, hx304_0, hl304_0, hi304_0⟩ := at_L3 (Kd.S_reads' HO_8.out).2.2 x77_4 p304 q304
                                                      obtain rfl : ad297 = ad304 := (by injection e304)
                                                      obtain ⟨ce304, hce304, hMe304, hcc304⟩ := Kd.S_get HO_8.out [] x77_4 p304 (by first | exact q304 | exact of_decide_eq_true (by first | (with_reducible assumption) | assumption) | (have e_ := (Kd.S_reads' HO_8.out).1; omega))
                                                      obtain ⟨ve304_0, rfl, ge304_0⟩ := hMe304
                                                      have hv304_0 := hcc304 0 _ rfl
                                                      rw [Nat.add_zero, show ((Kd.slice 32 k32)).sz = 1 from rfl, Nat.mul_one] at hv304_0
                                                      replace hv304_0 := Option.some.inj (hv304_0.symm.trans hx304_0)
                                                      rw [hv304_0] at ge304_0
                                                      have HL304_0 := Aside0.mk (show Kd.R k32 32 _ _ _ _ (rd_L3 t291 x77_4) from ge304_0)
                                                      clear hv304_0 ge304_0
                                                      have HX304_0 := Aside0.mk hx304_0
                                                      clear hcc304 hce304
                                                      have HR304_0 := Aside0.mk hi304_0
                                                      have HC304_0 := Aside0.mk hl304_0
                                                      clear hi304_0 hl304_0
                                                      replace p304 := eq_true p304
                                                      replace q304 := eq_true q304
                                                      have ea_ := Option.some.inj (hx300_0.symm.trans hx304_0)
                                                      injection ea_ with ea_ en_ ec_
                                                      subst ea_
                                                      subst ec_
                                                      clear en_
                                                      have p305 : 0 ≤ (x96_5 : Int) := of_decide_eq_true (by first | (with_reducible assumption) | assumption)
                                                      have q305 : x96_5 < ((rd_L3 t291 x77_4).length : Int) := of_decide_eq_true (by first | (with_reducible assumption) | assumption)
                                                      obtain ⟨ad305, e305, hx305_0, hx305_1, hx305_2⟩ := at_T32 (by repeat (first | (with_reducible exact HR304_0.out) | (with_reducible refine Kd.C_alloc ?_ _) | (with_reducible refine Kd.C_drewN ?_ _) | (with_reducible refine Kd.C_drew ?_) | exact HR304_0.out)) x96_5 p305 q305
                                                      cases e305
                                                      replace p305 := eq_true p305
                                                      replace q305 := eq_true q305
                                                      go_wp2
                                                      repeat (go_quiet (fail); try go_wp2)
                                                      go_roundg k5
                                                      case measure => have := HK1.out; have := HJ2.out; have := HJ44.out; have := HK4.out; have := HK5.out; omega
                                                      case rel => exact ⟨(wrap64 (x96_5 + 1)), (by first | rfl | (simp; done) | (simp [*]; done)), H', ⟨by have := HK1.out; have := HJ2.out; have := HJ44.out; have := HK4.out; have := HK5.out; omega⟩, ⟨by (with_reducible repeat (first | apply Kd.S_alloc | apply Kd.S_drewN | apply Kd.S_drew)); exact HO_5.out⟩, ⟨by (with_reducible repeat (first | apply Kd.S_alloc | apply Kd.S_drewN | apply Kd.S_drew)); exact HO_8.out⟩, ⟨by repeat (first | (with_reducible exact HR297_0.out) | (with_reducible refine Kd.C_alloc ?_ _) | (with_reducible refine Kd.C_drewN ?_ _) | (with_reducible refine Kd.C_drew ?_) | exact HR297_0.out)⟩, ⟨by repeat (first | (with_reducible exact HR298_0.out) | (with_reducible refine Kd.C_alloc ?_ _) | (with_reducible refine Kd.C_drewN ?_ _) | (with_reducible refine Kd.C_drew ?_) | exact HR298_0.out)⟩, ⟨by repeat (first | (with_reducible exact HR299_0.out) | (with_reducible refine Kd.C_alloc ?_ _) | (with_reducible refine Kd.C_drewN ?_ _) | (with_reducible refine Kd.C_drew ?_) | exact HR299_0.out)⟩, ⟨by repeat (first | (with_reducible first | exact HB.out | apply below_alloc | apply pw_below_drewN | apply below_drew1) | exact HB.out)⟩⟩
                                                    · rw [if_neg c71] at H
                                                      have c71b0 : (((rd_T32 (rd_L3 t291 x77_4) x96_5).f1) == (wrap64 (x77_4 + 1))) = false := beq_eq_false_iff_ne.mpr c71
                                                      have c71b1 : (((rd_T32 (rd_L3 t291 x77_4) x96_5).f1) != (wrap64 (x77_4 + 1))) = true := bne_iff_ne.mpr c71
                                                      obtain rfl := Option.some.inj H
                                                      exact absurd hr_.out (by decide)
                                                  · rw [if_neg c70] at H
                                                    have c70b0 : (((rd_T32 (rd_L3 t291 x77_4) x96_5).f0).toList == (rdOf ByteArray.empty (rd_L5 x5_1 x77_4) x96_5).toList) = false := beq_eq_false_iff_ne.mpr c70
                                                    have c70b1 : (((rd_T32 (rd_L3 t291 x77_4) x96_5).f0).toList != (rdOf ByteArray.empty (rd_L5 x5_1 x77_4) x96_5).toList) = true := bne_iff_ne.mpr c70
                                                    obtain rfl := Option.some.inj H
                                                    exact absurd hr_.out (by decide)
                                                · rw [if_neg c69] at H
                                                  exact absurd H (by simp)
                                              · rw [if_neg c68] at H
                                                exact absurd H (by simp)
                                            · rw [if_neg c67] at H
                                              exact absurd H (by simp)
                                          · rw [if_neg c66] at H
                                            exact absurd H (by simp)
                                        · rw [if_neg c65] at H
                                          exact absurd H (by simp)
                                      · rw [if_neg c64] at H
                                        exact absurd H (by simp)
                                    · rw [if_neg c63] at H
                                      have c63b0 : decide (x96_5 < ((rd_L3 t291 x77_4).length : Int)) = false := decide_eq_false c63
                                      clear c63
                                      have H' := Aside0.mk H
                                      clear H
                                      go_wp2
                                      repeat (go_quiet (fail); try go_wp2)
                                      go_roundg k5
                                      case measure => have := HK1.out; have := HJ2.out; have := HJ44.out; have := HK4.out; have := HK5.out; omega
                                      case rel => exact ⟨(wrap64 (x77_4 + 1)), (by first | rfl | (simp; done) | (simp [*]; done)), H', ⟨by have := HK1.out; have := HJ2.out; have := HJ44.out; have := HK4.out; have := HK5.out; omega⟩, ⟨by (with_reducible repeat (first | apply Kd.S_alloc | apply Kd.S_drewN | apply Kd.S_drew)); exact HO_5.out⟩, ⟨by (with_reducible repeat (first | apply Kd.S_alloc | apply Kd.S_drewN | apply Kd.S_drew)); exact HO_8.out⟩, ⟨by repeat (first | (with_reducible first | exact HB.out | apply below_alloc | apply pw_below_drewN | apply below_drew1) | exact HB.out)⟩⟩
                              · rw [if_neg c62] at H
                                have c62b0 : (((rd_L3 t291 x77_4).length : Int) == ((rd_L5 x5_1 x77_4).length : Int)) = false := beq_eq_false_iff_ne.mpr c62
                                have c62b1 : (((rd_L3 t291 x77_4).length : Int) != ((rd_L5 x5_1 x77_4).length : Int)) = true := bne_iff_ne.mpr c62
                                have c62b2 : ((rd_L3 t291 x77_4).length == (rd_L5 x5_1 x77_4).length) = false := by first | simpa using c62 | (simp at c62 ⊢; omega)
                                obtain rfl := Option.some.inj H
                                exact absurd hr_.out (by decide)
                            · rw [if_neg c61] at H
                              exact absurd H (by simp)
                          · rw [if_neg c60] at H
                            exact absurd H (by simp)
                        · rw [if_neg c59] at H
                          exact absurd H (by simp)
                      · rw [if_neg c58] at H
                        have c58b0 : decide (x77_4 < (t291.length : Int)) = false := decide_eq_false c58
                        clear c58
                        obtain rfl := Option.some.inj H
                        simp only [Option.some.injEq, Prod.mk.injEq] at H
                        obtain ⟨rfl⟩ := H
                        go_wp2
                        repeat (go_quiet (fail); try go_wp2)
                        go_ret
                        exact ⟨by first | rfl | (simp [errW_none, errW_some] <;> rfl) | (simp [*, errW_none, errW_some] <;> rfl), by repeat (first | (with_reducible first | exact HB.out | apply below_alloc | apply pw_below_drewN | apply below_drew1) | exact HB.out)⟩

def railplanlaw3_WordsRoundTrip.Pure : Prop := ∀ (l0 : List Int) (a1 : Int), (fun xs : List Int => xs.length * 1 ≤ 140737488351232 ∧ xs.length ≤ maxLen ∧ ∀ x ∈ xs, (fun x : Int => (Lit.int .u8 x).wf = true) x) l0 → (fun x : Int => (Lit.int .u8 x).wf = true) a1 → ∃ k, railplanlaw3_WordsRoundTrip.f k l0 a1 = some true

end Go.Proofs.YtnmbljpifadipaaDoor.X
