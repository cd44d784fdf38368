/- Written by a program of this claim. Proved: each Go function named below, called with any arguments at which its Lean function answers, returns that answer; or, of a law, its given statement. -/
import Derived.Test.YtnmbljpifadipaaDoorX0
import Derived.Test.YtnmbljpifadipaaDoorX3
import Derived.Test.YtnmbljpifadipaaDoorX4
import Derived.Test.YtnmbljpifadipaaDoorX7
import Derived.Test.YtnmbljpifadipaaDoorQLaid
namespace Go.Proofs.YtnmbljpifadipaaDoor.X
open Go.RowKit Go.Proofs.YtnmbljpifadipaaDoorW Go.Proofs.YtnmbljpifadipaaDoorW.PrintWords Go.Proofs.YtnmbljpifadipaaDoorW.PrintLast Go.Proofs.YtnmbljpifadipaaDoorW.PrintMore
attribute [local go_sem] max2_int min2_int max_two min_two max_three min_three max_four min_four   -- for this text's walks alone
set_option linter.unusedVariables false
set_option linter.unusedSimpArgs false

/-! ### railplanref1_Number: function 24 -/
mutual
def railplanref1_Number.j0 : Nat → ByteArray → Int → Bool → Option (Int × Bool)
  | 0, _, _, _ => none
  | k + 1, x4, x5, x16 => if x16 = true then (if 1 ≤ (x4.size : Int) then (railplanref1_Number.j1 k (x4.extract 1 x4.size) (-1)) else (none)) else (railplanref1_Number.j1 k x4 x5)
def railplanref1_Number.j1 : Nat → ByteArray → Int → Option (Int × Bool)
  | 0, _, _ => none
  | k + 1, x4, x5 => if (x4.size : Int) < 1 then (railplanref1_Number.j2 k x4 x5 true) else (if (x4.size : Int) > 13 then (railplanref1_Number.j2 k x4 x5 true) else (if 0 < (x4.size : Int) then (if (bt x4 0) = 48 then (if (x4.size : Int) > 1 then (railplanref1_Number.j2 k x4 x5 true) else (railplanref1_Number.j2 k x4 x5 (decide (x5 < 0)))) else (railplanref1_Number.j2 k x4 x5 false)) else (none)))
def railplanref1_Number.j2 : Nat → ByteArray → Int → Bool → Option (Int × Bool)
  | 0, _, _, _ => none
  | k + 1, x4, x5, x40 => if x40 = true then (some (0, false)) else (railplanref1_Number.l0 k x4 x5 0 0)
def railplanref1_Number.l0 : Nat → ByteArray → Int → Int → Int → Option (Int × Bool)
  | 0, _, _, _, _ => none
  | k + 1, x4, x5, x6, x7 => if x7 < (x4.size : Int) then (if 0 ≤ x7 then ((railplanref1_digit.f (bt x4 x7)).bind fun t234 => (if t234 = true then (railplanref1_Number.l0 k x4 x5 (wrap64 ((wrap64 (10 * x6)) + (((bt x4 x7) - 48) % 256))) (wrap64 (x7 + 1))) else (some (0, false)))) else (none)) else (if x6 > 1099511627776 then (some (0, false)) else (some (wrap64 (x5 * x6), true)))
end
def railplanref1_Number.f (k : Nat) (a0 : ByteArray) : Option (Int × Bool) := if (a0.size : Int) > 0 then (if 0 < (a0.size : Int) then (railplanref1_Number.j0 k a0 1 ((bt a0 0) == 45)) else (none)) else (railplanref1_Number.j0 k a0 1 false)
theorem railplanref1_Number.mono_l : ∀ k, (∀ y0 y1 y2, LeO (railplanref1_Number.j0 k y0 y1 y2) (railplanref1_Number.j0 (k + 1) y0 y1 y2)) ∧ (∀ y0 y1, LeO (railplanref1_Number.j1 k y0 y1) (railplanref1_Number.j1 (k + 1) y0 y1)) ∧ (∀ y0 y1 y2, LeO (railplanref1_Number.j2 k y0 y1 y2) (railplanref1_Number.j2 (k + 1) y0 y1 y2)) ∧ (∀ y0 y1 y2 y3, LeO (railplanref1_Number.l0 k y0 y1 y2 y3) (railplanref1_Number.l0 (k + 1) y0 y1 y2 y3))
  | 0 => ⟨fun _ _ _ r h => by simp [railplanref1_Number.j0] at h, fun _ _ r h => by simp [railplanref1_Number.j1] at h, fun _ _ _ r h => by simp [railplanref1_Number.j2] at h, fun _ _ _ _ r h => by simp [railplanref1_Number.l0] at h⟩
  | k + 1 => by
    obtain ⟨ih0, ih1, ih2, ih3⟩ := railplanref1_Number.mono_l k
    refine ⟨?_, ?_, ?_, ?_⟩
    · intro y0 y1 y2
      unfold railplanref1_Number.j0
      repeat' first
      | (with_reducible exact ih0 _ _ _)
      | (with_reducible exact ih1 _ _)
      | (with_reducible exact ih2 _ _ _)
      | (with_reducible exact ih3 _ _ _ _)
      | (with_reducible exact LeO.refl _)
      | (with_reducible exact LeO.none _)
      | (with_reducible refine LeO.ite ?_ ?_)
      | (with_reducible refine LeO.bind ?_ (fun _ => ?_))
      | exact ih0 _ _ _
      | exact ih1 _ _
      | exact ih2 _ _ _
      | exact ih3 _ _ _ _
      | exact LeO.none _
      | refine LeO.ite ?_ ?_
      | refine LeO.bind ?_ (fun _ => ?_)
    · intro y0 y1
      unfold railplanref1_Number.j1
      repeat' first
      | (with_reducible exact ih0 _ _ _)
      | (with_reducible exact ih1 _ _)
      | (with_reducible exact ih2 _ _ _)
      | (with_reducible exact ih3 _ _ _ _)
      | (with_reducible exact LeO.refl _)
      | (with_reducible exact LeO.none _)
      | (with_reducible refine LeO.ite ?_ ?_)
      | (with_reducible refine LeO.bind ?_ (fun _ => ?_))
      | exact ih0 _ _ _
      | exact ih1 _ _
      | exact ih2 _ _ _
      | exact ih3 _ _ _ _
      | exact LeO.none _
      | refine LeO.ite ?_ ?_
      | refine LeO.bind ?_ (fun _ => ?_)
    · intro y0 y1 y2
      unfold railplanref1_Number.j2
      repeat' first
      | (with_reducible exact ih0 _ _ _)
      | (with_reducible exact ih1 _ _)
      | (with_reducible exact ih2 _ _ _)
      | (with_reducible exact ih3 _ _ _ _)
      | (with_reducible exact LeO.refl _)
      | (with_reducible exact LeO.none _)
      | (with_reducible refine LeO.ite ?_ ?_)
      | (with_reducible refine LeO.bind ?_ (fun _ => ?_))
      | exact ih0 _ _ _
      | exact ih1 _ _
      | exact ih2 _ _ _
      | exact ih3 _ _ _ _
      | exact LeO.none _
      | refine LeO.ite ?_ ?_
      | refine LeO.bind ?_ (fun _ => ?_)
    · intro y0 y1 y2 y3
      unfold railplanref1_Number.l0
      repeat' first
      | (with_reducible exact ih0 _ _ _)
      | (with_reducible exact ih1 _ _)
      | (with_reducible exact ih2 _ _ _)
      | (with_reducible exact ih3 _ _ _ _)
      | (with_reducible exact LeO.refl _)
      | (with_reducible exact LeO.none _)
      | (with_reducible refine LeO.ite ?_ ?_)
      | (with_reducible refine LeO.bind ?_ (fun _ => ?_))
      | exact ih0 _ _ _
      | exact ih1 _ _
      | exact ih2 _ _ _
      | exact ih3 _ _ _ _
      | exact LeO.none _
      | refine LeO.ite ?_ ?_
      | refine LeO.bind ?_ (fun _ => ?_)
theorem railplanref1_Number.mono : ∀ a0 k, LeO (railplanref1_Number.f k a0) (railplanref1_Number.f (k + 1) a0) := by
  intro a0 k
  obtain ⟨ih0, ih1, ih2, ih3⟩ := railplanref1_Number.mono_l k
  unfold railplanref1_Number.f
  repeat' first
      | (with_reducible exact ih0 _ _ _)
      | (with_reducible exact ih1 _ _)
      | (with_reducible exact ih2 _ _ _)
      | (with_reducible exact ih3 _ _ _ _)
      | (with_reducible exact LeO.refl _)
      | (with_reducible exact LeO.none _)
      | (with_reducible refine LeO.ite ?_ ?_)
      | (with_reducible refine LeO.bind ?_ (fun _ => ?_))
      | exact ih0 _ _ _
      | exact ih1 _ _
      | exact ih2 _ _ _
      | exact ih3 _ _ _ _
      | exact LeO.none _
      | refine LeO.ite ?_ ?_
      | refine LeO.bind ?_ (fun _ => ?_)
set_option maxHeartbeats 8000000 in
set_option maxRecDepth 100000 in
theorem railplanref1_Number.calls (k : Nat) (a0 : ByteArray) (r1 : Int) (r2 : Bool) (w : World) (h : railplanref1_Number.f k a0 = some (r1, r2)) :
    Calls Tryd.prog 24 #[.string a0] w fun e w' => e = .returned (.tuple #[.int .i64 r1, .bool r2]) ∧ Drawn0 w w' := by
  have H : (if (a0.size : Int) > 0 then (if 0 < (a0.size : Int) then (railplanref1_Number.j0 k a0 1 ((bt a0 0) == 45)) else (none)) else (railplanref1_Number.j0 k a0 1 false)) = some (r1, r2) := h
  clear h
  have HC2 := Aside0.mk H
  clear H
  go_enter Tryd.func24, Tryd.ntmps24
  go_upto_region 2 with (fail)
  go_cut [16] (fun v16 wc => ∃ (kq : Nat) (x16_1 : Bool), v16 = .bool x16_1 ∧ Aside0 (railplanref1_Number.j0 kq a0 1 x16_1 = some (r1, r2)) ∧ Aside0 (kq ≤ k) ∧ Drawn0 w wc)
  case first =>
    have H := HC2.out
    clear HC2
    by_cases c3 : (a0.size : Int) > 0
    · rw [if_pos c3] at H
      have c3b0 : decide (0 < (a0.size : Int)) = true := decide_eq_true c3
      have c3b1 : decide (0 < a0.size) = true := decide_eq_true (by omega)
      clear c3
      (first | rw [c3b0] | (simp only [i64_w, i32_w]; rw [c3b0]) | rw [c3b1] | skip)
      by_cases c4 : 0 < (a0.size : Int)
      · rw [if_pos c4] at H
        have c4b0 : decide (0 < (a0.size : Int)) = true := decide_eq_true c4
        have c4b1 : decide (0 < a0.size) = true := decide_eq_true (by omega)
        clear c4
        have H' := Aside0.mk H
        clear H
        have p5 : 0 ≤ (0 : Int) := (by omega)
        have q5 : 0 < a0.size := (by have : (0 : Int) < (a0.size : Int) := of_decide_eq_true (by first | (with_reducible assumption) | assumption); omega)
        have hx5 : ∀ h : 0 < a0.size, ((a0[0]'h).toNat : Int) = bt a0 0 := bt_at a0 0
        clear p5
        have qi5 : (0 < (a0.size : Int)) = True := eq_true (of_decide_eq_true (by first | (with_reducible assumption) | assumption))
        replace q5 := eq_true q5
        go_wp2
        go_meet
        case rel => exact ⟨_, (((bt a0 0) == 45)), (by first | rfl | (simp; done) | (simp [*]; done)), H', ⟨by first | omega | exact Nat.le_refl _⟩, by repeat (first | exact Drawn0.refl _ | apply Drawn0.step)⟩
      · rw [if_neg c4] at H
        exact absurd H (by simp)
    · rw [if_neg c3] at H
      have c3b0 : decide (0 < (a0.size : Int)) = false := decide_eq_false c3
      have c3b1 : decide (0 < a0.size) = false := decide_eq_false (by omega)
      clear c3
      (first | rw [c3b0] | (simp only [i64_w, i32_w]; rw [c3b0]) | rw [c3b1] | skip)
      have H' := Aside0.mk H
      clear H
      go_wp2
      go_meet
      case rel => exact ⟨_, (false), (by first | rfl | (simp; done) | (simp [*]; done)), H', ⟨by first | omega | exact Nat.le_refl _⟩, by repeat (first | exact Drawn0.refl _ | apply Drawn0.step)⟩
  case rest =>
    clear HC2
    try clear c2
    try clear p2
    try clear c3
    try clear c3b0
    try clear c3b1
    try clear c4
    try clear c4b0
    try clear c4b1
    try clear p5
    try clear q5
    try clear hx5
    try clear qi5
    try clear p5
    try clear q5
    obtain ⟨kq, x16_1, rfl, HA, HJ1, ⟨mc1, rfl⟩⟩ := hcut
    cases kq with
    | zero => exact absurd HA.out (by simp [railplanref1_Number.j0])
    | succ kj1 =>
      have H := HA.out
      clear HA
      simp only [railplanref1_Number.j0] at H
      have HC6 := Aside0.mk H
      clear H
      go_upto_if 16 with (fail)
      go_cut [4, 5] (fun v4 v5 wc => ∃ (kq : Nat) (x4_5 : ByteArray) (x5_5 : Int), v4 = .string x4_5 ∧ v5 = .int .i64 x5_5 ∧ Aside0 (railplanref1_Number.j1 kq x4_5 x5_5 = some (r1, r2)) ∧ Aside0 (kq ≤ kj1) ∧ Drawn0 w wc)
      case first =>
        have H := HC6.out
        clear HC6
        by_cases c7 : x16_1 = true
        · subst c7
          have H1 : (if 1 ≤ (a0.size : Int) then (railplanref1_Number.j1 kj1 (a0.extract 1 a0.size) (-1)) else (none)) = some (r1, r2) := by rw [if_pos rfl] at H; exact H
          clear H
          have H := H1
          clear H1
          by_cases c8 : 1 ≤ (a0.size : Int)
          · rw [if_pos c8] at H
            have c8b0 := eq_true c8
            have c8b1 : decide (1 ≤ (a0.size : Int)) = true := decide_eq_true c8
            clear c8
            have H' := Aside0.mk H
            clear H
            go_wp2
            go_meet
            case rel => exact ⟨_, (a0.extract 1 a0.size), ((-1)), (by first | rfl | (simp; done) | (simp [*]; done)), (by first | rfl | (simp; done) | (simp [*]; done)), H', ⟨by have := HJ1.out; first | omega | exact Nat.le_refl _⟩, by repeat (first | exact Drawn0.refl _ | apply Drawn0.step)⟩
          · rw [if_neg c8] at H
            exact absurd H (by simp)
        · replace c7 := Bool.eq_false_iff.mpr c7
          subst c7
          have H1 : (railplanref1_Number.j1 kj1 a0 1) = some (r1, r2) := by rw [if_neg (show ¬ (false = true) by decide)] at H; exact H
          clear H
          have H := H1
          clear H1
          have H' := Aside0.mk H
          clear H
          go_wp2
          go_meet
          case rel => exact ⟨_, (a0), (1), (by first | rfl | (simp; done) | (simp [*]; done)), (by first | rfl | (simp; done) | (simp [*]; done)), H', ⟨by have := HJ1.out; first | omega | exact Nat.le_refl _⟩, by repeat (first | exact Drawn0.refl _ | apply Drawn0.step)⟩
      case rest =>
        clear HC6
        try clear c1
        try clear c2
        try clear p2
        try clear c3
        try clear c3b0
        try clear c3b1
        try clear c4
        try clear c4b0
        try clear c4b1
        try clear p5
        try clear q5
        try clear hx5
        try clear qi5
        try clear c7
        try clear c8
        try clear c8b0
        try clear c8b1
        try clear p2
        try clear p5
        try clear q5
        obtain ⟨kq, x4_5, x5_5, rfl, rfl, HA, HJ5, ⟨mc5, rfl⟩⟩ := hcut
        cases kq with
        | zero => exact absurd HA.out (by simp [railplanref1_Number.j1])
        | succ kj5 =>
          have H := HA.out
          clear HA
          simp only [railplanref1_Number.j1] at H
          have HC9 := Aside0.mk H
          clear H
          go_upto_region 4 with (fail)
          go_cut [40] (fun v40 wc => ∃ (kq : Nat) (x40_8 : Bool), v40 = .bool x40_8 ∧ Aside0 (railplanref1_Number.j2 kq x4_5 x5_5 x40_8 = some (r1, r2)) ∧ Aside0 (kq ≤ kj5) ∧ Drawn0 w wc)
          case first =>
            have H := HC9.out
            clear HC9
            by_cases c10 : (x4_5.size : Int) < 1
            · rw [if_pos c10] at H
              have c10b0 : decide ((x4_5.size : Int) < 1) = true := decide_eq_true c10
              have c10b1 : decide (x4_5.size < 1) = true := decide_eq_true (by omega)
              clear c10
              (first | rw [c10b0] | (simp only [i64_w, i32_w]; rw [c10b0]) | rw [c10b1] | skip)
              have H' := Aside0.mk H
              clear H
              go_wp2
              go_meet
              case rel => exact ⟨_, (true), (by first | rfl | (simp; done) | (simp [*]; done)), H', ⟨by have := HJ1.out; have := HJ5.out; first | omega | exact Nat.le_refl _⟩, by repeat (first | exact Drawn0.refl _ | apply Drawn0.step)⟩
            · rw [if_neg c10] at H
              have c10b0 : decide ((x4_5.size : Int) < 1) = false := decide_eq_false c10
              have c10b1 : decide (x4_5.size < 1) = false := decide_eq_false (by omega)
              clear c10
              (first | rw [c10b0] | (simp only [i64_w, i32_w]; rw [c10b0]) | rw [c10b1] | skip)
              by_cases c11 : (x4_5.size : Int) > 13
              · rw [if_pos c11] at H
                have c11b0 : decide (13 < (x4_5.size : Int)) = true := decide_eq_true c11
                have c11b1 : decide (13 < x4_5.size) = true := decide_eq_true (by omega)
                clear c11
                have H' := Aside0.mk H
                clear H
                go_wp2
                go_meet
                case rel => exact ⟨_, (true), (by first | rfl | (simp; done) | (simp [*]; done)), H', ⟨by have := HJ1.out; have := HJ5.out; first | omega | exact Nat.le_refl _⟩, by repeat (first | exact Drawn0.refl _ | apply Drawn0.step)⟩
              · rw [if_neg c11] at H
                have c11b0 : decide (13 < (x4_5.size : Int)) = false := decide_eq_false c11
                have c11b1 : decide (13 < x4_5.size) = false := decide_eq_false (by omega)
                clear c11
                by_cases c12 : 0 < (x4_5.size : Int)
                · rw [if_pos c12] at H
                  have c12b0 : decide (0 < (x4_5.size : Int)) = true := decide_eq_true c12
                  have c12b1 : decide (0 < x4_5.size) = true := decide_eq_true (by omega)
                  clear c12
                  by_cases c14 : (bt x4_5 0) = 48
                  · rw [if_pos c14] at H
                    have c14b0 : ((bt x4_5 0) == 48) = true := beq_iff_eq.mpr c14
                    have c14b1 : ((bt x4_5 0) != 48) = false := bne_eq_false_iff_eq.mpr c14
                    clear c14
                    by_cases c15 : (x4_5.size : Int) > 1
                    · rw [if_pos c15] at H
                      have c15b0 : decide (1 < (x4_5.size : Int)) = true := decide_eq_true c15
                      have c15b1 : decide (1 < x4_5.size) = true := decide_eq_true (by omega)
                      clear c15
                      have H' := Aside0.mk H
                      clear H
                      have p13 : 0 ≤ (0 : Int) := (by omega)
                      have q13 : 0 < x4_5.size := (by have : (0 : Int) < (x4_5.size : Int) := of_decide_eq_true (by first | (with_reducible assumption) | assumption); omega)
                      have hx13 : ∀ h : 0 < x4_5.size, ((x4_5[0]'h).toNat : Int) = bt x4_5 0 := bt_at x4_5 0
                      clear p13
                      have qi13 : (0 < (x4_5.size : Int)) = True := eq_true (of_decide_eq_true (by first | (with_reducible assumption) | assumption))
                      replace q13 := eq_true q13
                      go_wp2
                      go_meet
                      case rel => exact ⟨_, (true), (by first | rfl | (simp; done) | (simp [*]; done)), H', ⟨by have := HJ1.out; have := HJ5.out; first | omega | exact Nat.le_refl _⟩, by repeat (first | exact Drawn0.refl _ | apply Drawn0.step)⟩
                    · rw [if_neg c15] at H
                      have c15b0 : decide (1 < (x4_5.size : Int)) = false := decide_eq_false c15
                      have c15b1 : decide (1 < x4_5.size) = false := decide_eq_false (by omega)
                      clear c15
                      have H' := Aside0.mk H
                      clear H
                      have p13 : 0 ≤ (0 : Int) := (by omega)
                      have q13 : 0 < x4_5.size := (by have : (0 : Int) < (x4_5.size : Int) := of_decide_eq_true (by first | (with_reducible assumption) | assumption); omega)
                      have hx13 : ∀ h : 0 < x4_5.size, ((x4_5[0]'h).toNat : Int) = bt x4_5 0 := bt_at x4_5 0
                      clear p13
                      have qi13 : (0 < (x4_5.size : Int)) = True := eq_true (of_decide_eq_true (by first | (with_reducible assumption) | assumption))
                      replace q13 := eq_true q13
                      go_wp2
                      go_meet
                      case rel => exact ⟨_, (decide (x5_5 < 0)), (by first | rfl | (simp; done) | (simp [*]; done)), H', ⟨by have := HJ1.out; have := HJ5.out; first | omega | exact Nat.le_refl _⟩, by repeat (first | exact Drawn0.refl _ | apply Drawn0.step)⟩
                  · rw [if_neg c14] at H
                    have c14b0 : ((bt x4_5 0) == 48) = false := beq_eq_false_iff_ne.mpr c14
                    have c14b1 : ((bt x4_5 0) != 48) = true := bne_iff_ne.mpr c14
                    have H' := Aside0.mk H
                    clear H
                    have p13 : 0 ≤ (0 : Int) := (by omega)
                    have q13 : 0 < x4_5.size := (by have : (0 : Int) < (x4_5.size : Int) := of_decide_eq_true (by first | (with_reducible assumption) | assumption); omega)
                    have hx13 : ∀ h : 0 < x4_5.size, ((x4_5[0]'h).toNat : Int) = bt x4_5 0 := bt_at x4_5 0
                    clear p13
                    have qi13 : (0 < (x4_5.size : Int)) = True := eq_true (of_decide_eq_true (by first | (with_reducible assumption) | assumption))
                    replace q13 := eq_true q13
                    go_wp2
                    go_meet
                    case rel => exact ⟨_, (false), (by first | rfl | (simp; done) | (simp [*]; done)), H', ⟨by have := HJ1.out; have := HJ5.out; first | omega | exact Nat.le_refl _⟩, by repeat (first | exact Drawn0.refl _ | apply Drawn0.step)⟩
                · rw [if_neg c12] at H
                  exact absurd H (by simp)
          case rest =>
            clear HC9
            try clear c1
            try clear p1
            try clear q1
            try clear hx1
            try clear qi1
            try clear c2
            try clear p2
            try clear c3
            try clear c3b0
            try clear c3b1
            try clear c4
            try clear c4b0
            try clear c4b1
            try clear c5
            try clear p5
            try clear q5
            try clear hx5
            try clear qi5
            try clear c7
            try clear c8
            try clear c8b0
            try clear c8b1
            try clear c10
            try clear c10b0
            try clear c10b1
            try clear c11
            try clear c11b0
            try clear c11b1
            try clear c12
            try clear c12b0
            try clear c12b1
            try clear p13
            try clear q13
            try clear hx13
            try clear qi13
            try clear c14
            try clear c14b0
            try clear c14b1
            try clear c15
            try clear c15b0
            try clear c15b1
            try clear p13
            try clear p2
            try clear p5
            try clear q13
            try clear q5
            obtain ⟨kq, x40_8, rfl, HA, HJ8, ⟨mc8, rfl⟩⟩ := hcut
            cases kq with
            | zero => exact absurd HA.out (by simp [railplanref1_Number.j2])
            | succ kj8 =>
              have H := HA.out
              clear HA
              simp only [railplanref1_Number.j2] at H
              by_cases c16 : x40_8 = true
              · subst c16
                have H1 : (some (0, false)) = some (r1, r2) := by rw [if_pos rfl] at H; exact H
                clear H
                have H := H1
                clear H1
                simp only [Option.some.injEq, Prod.mk.injEq] at H
                obtain ⟨rfl, rfl⟩ := H
                go_wp2
                go_ret2
                exact ⟨by first | rfl | (simp; done) | (simp [*]; done), by repeat (first | exact Drawn0.refl _ | apply Drawn0.step)⟩
              · replace c16 := Bool.eq_false_iff.mpr c16
                subst c16
                have H1 : (railplanref1_Number.l0 kj8 x4_5 x5_5 0 0) = some (r1, r2) := by rw [if_neg (show ¬ (false = true) by decide)] at H; exact H
                clear H
                have H := H1
                clear H1
                have H' := Aside0.mk H
                clear H
                go_wp2
                go_loopg [6, 7] kj8 (fun kq v6 v7 w' => ∃ (x6_4 : Int) (x7_4 : Int), v6 = .int .i64 x6_4 ∧ v7 = .int .i64 x7_4 ∧ Aside0 (railplanref1_Number.l0 kq x4_5 x5_5 x6_4 x7_4 = some (r1, r2)) ∧ Aside0 (kq ≤ kj8) ∧ Drawn0 w w')
                case atStart => exact ⟨(0), (0), (by first | rfl | (simp; done) | (simp [*]; done)), (by first | rfl | (simp; done) | (simp [*]; done)), H', ⟨Nat.le_refl _⟩, by repeat (first | exact Drawn0.refl _ | apply Drawn0.step)⟩
                case round =>
                  clear H'
                  try clear c1
                  try clear p1
                  try clear q1
                  try clear hx1
                  try clear qi1
                  try clear c2
                  try clear p2
                  try clear c3
                  try clear c3b0
                  try clear c3b1
                  try clear c4
                  try clear c4b0
                  try clear c4b1
                  try clear c5
                  try clear p5
                  try clear q5
                  try clear hx5
                  try clear qi5
                  try clear c7
                  try clear c8
                  try clear c8b0
                  try clear c8b1
                  try clear c10
                  try clear c10b0
                  try clear c10b1
                  try clear c11
                  try clear c11b0
                  try clear c11b1
                  try clear c12
                  try clear c12b0
                  try clear c12b1
                  try clear p13
                  try clear q13
                  try clear hx13
                  try clear qi13
                  try clear c14
                  try clear c14b0
                  try clear c14b1
                  try clear c15
                  try clear c15b0
                  try clear c15b1
                  try clear c16
                  try clear p1
                  try clear p13
                  try clear p2
                  try clear p5
                  try clear q1
                  try clear q13
                  try clear q5
                  obtain ⟨x6_4, x7_4, rfl, rfl, HA, HK4, ⟨m4, rfl⟩⟩ := hrel
                  cases gk with
                  | zero => exact absurd HA.out (by simp [railplanref1_Number.l0])
                  | succ k4 =>
                    have H := HA.out
                    clear HA
                    simp only [railplanref1_Number.l0] at H
                    by_cases c17 : x7_4 < (x4_5.size : Int)
                    · rw [if_pos c17] at H
                      have c17b0 : decide (x7_4 < (x4_5.size : Int)) = true := decide_eq_true c17
                      clear c17
                      by_cases c18 : 0 ≤ x7_4
                      · rw [if_pos c18] at H
                        have c18b0 : decide (0 ≤ x7_4) = true := decide_eq_true c18
                        clear c18
                        replace H := Option.bind_eq_some_iff.mp H
                        obtain ⟨t234, A200, H⟩ := H
                        replace H : (if t234 = true then (railplanref1_Number.l0 k4 x4_5 x5_5 (wrap64 ((wrap64 (10 * x6_4)) + (((bt x4_5 x7_4) - 48) % 256))) (wrap64 (x7_4 + 1))) else (some (0, false))) = some (r1, r2) := H
                        have A20 := Aside0.mk A200
                        clear A200
                        by_cases c21 : t234 = true
                        · subst c21
                          have H1 : (railplanref1_Number.l0 k4 x4_5 x5_5 (wrap64 ((wrap64 (10 * x6_4)) + (((bt x4_5 x7_4) - 48) % 256))) (wrap64 (x7_4 + 1))) = some (r1, r2) := by rw [if_pos rfl] at H; exact H
                          clear H
                          have H := H1
                          clear H1
                          have H' := Aside0.mk H
                          clear H
                          have p19 : 0 ≤ (x7_4 : Int) := of_decide_eq_true (by first | (with_reducible assumption) | assumption)
                          have q19 : x7_4 < (x4_5.size : Int) := of_decide_eq_true (by first | (with_reducible assumption) | assumption)
                          have hx19 := bt_at x4_5 x7_4
                          replace p19 := eq_true p19
                          replace q19 := eq_true q19
                          go_wp2_with (first | ((with_reducible refine gate_callee (f := 36) rfl ?_); refine goesL_ (some 50) rfl rfl Tryd.func36 (by kernel_rfl) rfl #[.int .u8 (bt x4_5 x7_4)] rfl (by (try simp only [List.map_toArray, List.map_cons, List.map_nil]); first | done | rfl | (simp only [List.length_drop, List.length_take]; rfl)) ?_; (with_reducible refine (railplanref1_digit.calls (bt x4_5 x7_4) true _ A20.out).mono ?_); rintro e w' ⟨rfl, ⟨nd, rfl⟩⟩; refine ⟨_, rfl, ?_⟩; have p22 : 0 ≤ (x7_4 : Int) := of_decide_eq_true (by first | (with_reducible assumption) | assumption); have q22 : x7_4 < (x4_5.size : Int) := of_decide_eq_true (by first | (with_reducible assumption) | assumption); have hx22 := bt_at x4_5 x7_4; replace p22 := eq_true p22; replace q22 := eq_true q22))
                          go_roundg k4
                          case measure => have := HJ1.out; have := HJ5.out; have := HJ8.out; have := HK4.out; omega
                          case rel => exact ⟨(wrap64 ((wrap64 (10 * x6_4)) + (((bt x4_5 x7_4) - 48) % 256))), (wrap64 (x7_4 + 1)), (by first | rfl | (simp; done) | (simp [*]; done)), (by first | rfl | (simp; done) | (simp [*]; done)), H', ⟨by have := HJ1.out; have := HJ5.out; have := HJ8.out; have := HK4.out; omega⟩, by repeat (first | exact Drawn0.refl _ | apply Drawn0.step)⟩
                        · replace c21 := Bool.eq_false_iff.mpr c21
                          subst c21
                          have H1 : (some (0, false)) = some (r1, r2) := by rw [if_neg (show ¬ (false = true) by decide)] at H; exact H
                          clear H
                          have H := H1
                          clear H1
                          simp only [Option.some.injEq, Prod.mk.injEq] at H
                          obtain ⟨rfl, rfl⟩ := H
                          have p19 : 0 ≤ (x7_4 : Int) := of_decide_eq_true (by first | (with_reducible assumption) | assumption)
                          have q19 : x7_4 < (x4_5.size : Int) := of_decide_eq_true (by first | (with_reducible assumption) | assumption)
                          have hx19 := bt_at x4_5 x7_4
                          replace p19 := eq_true p19
                          replace q19 := eq_true q19
                          go_wp2_with (first | ((with_reducible refine gate_callee (f := 36) rfl ?_); refine goesL_ (some 50) rfl rfl Tryd.func36 (by kernel_rfl) rfl #[.int .u8 (bt x4_5 x7_4)] rfl (by (try simp only [List.map_toArray, List.map_cons, List.map_nil]); first | done | rfl | (simp only [List.length_drop, List.length_take]; rfl)) ?_; (with_reducible refine (railplanref1_digit.calls (bt x4_5 x7_4) false _ A20.out).mono ?_); rintro e w' ⟨rfl, ⟨nd, rfl⟩⟩; refine ⟨_, rfl, ?_⟩))
                          go_ret2
                          exact ⟨by first | rfl | (simp; done) | (simp [*]; done), by repeat (first | exact Drawn0.refl _ | apply Drawn0.step)⟩
                      · rw [if_neg c18] at H
                        exact absurd H (by simp)
                    · rw [if_neg c17] at H
                      have c17b0 : decide (x7_4 < (x4_5.size : Int)) = false := decide_eq_false c17
                      clear c17
                      by_cases c23 : x6_4 > 1099511627776
                      · rw [if_pos c23] at H
                        have c23b0 : decide (1099511627776 < x6_4) = true := decide_eq_true c23
                        clear c23
                        simp only [Option.some.injEq, Prod.mk.injEq] at H
                        obtain ⟨rfl, rfl⟩ := H
                        go_wp2
                        go_ret2
                        exact ⟨by first | rfl | (simp; done) | (simp [*]; done), by repeat (first | exact Drawn0.refl _ | apply Drawn0.step)⟩
                      · rw [if_neg c23] at H
                        have c23b0 : decide (1099511627776 < x6_4) = false := decide_eq_false c23
                        clear c23
                        simp only [Option.some.injEq, Prod.mk.injEq] at H
                        obtain ⟨rfl, rfl⟩ := H
                        go_wp2
                        go_ret2
                        exact ⟨by first | rfl | (simp; done) | (simp [*]; done), by repeat (first | exact Drawn0.refl _ | apply Drawn0.step)⟩

/-! ### railplanref1_Range: function 25 -/
mutual
def railplanref1_Range.l0 : Nat → ByteArray → Int → Option (Int × Int × Bool)
  | 0, _, _ => none
  | k + 1, x0, x5 => if (wrap64 (x5 + 1)) < (x0.size : Int) then (if 0 ≤ x5 then (if x5 < (x0.size : Int) then (if (bt x0 x5) = 46 then (if 0 ≤ (wrap64 (x5 + 1)) then (railplanref1_Range.j1 k x0 x5 ((bt x0 (wrap64 (x5 + 1))) == 46)) else (none)) else (railplanref1_Range.j1 k x0 x5 false)) else (none)) else (none)) else (some (0, 0, false))
def railplanref1_Range.j1 : Nat → ByteArray → Int → Bool → Option (Int × Int × Bool)
  | 0, _, _, _ => none
  | k + 1, x0, x5, x27 => if x27 = true then (if 0 ≤ x5 then (if x5 ≤ (x0.size : Int) then ((railplanref1_Number.f k (x0.extract 0 (x5 : Int).toNat)).bind fun bt235 => (if 0 ≤ (wrap64 (x5 + 2)) then (if (wrap64 (x5 + 2)) ≤ (x0.size : Int) then ((railplanref1_Number.f k (x0.extract ((wrap64 (x5 + 2)) : Int).toNat x0.size)).bind fun bt237 => (if bt235.2 = true then (if bt237.2 = true then (if bt235.1 > bt237.1 then (some (0, 0, false)) else (some (bt235.1, bt237.1, true))) else (some (0, 0, false))) else (some (0, 0, false)))) else (none)) else (none))) else (none)) else (none)) else (railplanref1_Range.l0 k x0 (wrap64 (x5 + 1)))
end
def railplanref1_Range.f (k : Nat) (a0 : ByteArray) : Option (Int × Int × Bool) := railplanref1_Range.l0 k a0 0
theorem railplanref1_Range.mono_l : ∀ k, (∀ y0 y1, LeO (railplanref1_Range.l0 k y0 y1) (railplanref1_Range.l0 (k + 1) y0 y1)) ∧ (∀ y0 y1 y2, LeO (railplanref1_Range.j1 k y0 y1 y2) (railplanref1_Range.j1 (k + 1) y0 y1 y2))
  | 0 => ⟨fun _ _ r h => by simp [railplanref1_Range.l0] at h, fun _ _ _ r h => by simp [railplanref1_Range.j1] at h⟩
  | k + 1 => by
    obtain ⟨ih0, ih1⟩ := railplanref1_Range.mono_l k
    refine ⟨?_, ?_⟩
    · intro y0 y1
      unfold railplanref1_Range.l0
      repeat' first
      | (with_reducible exact ih0 _ _)
      | (with_reducible exact ih1 _ _ _)
      | (with_reducible exact railplanref1_Number.mono _ _)
      | (with_reducible exact LeO.refl _)
      | (with_reducible exact LeO.none _)
      | (with_reducible refine LeO.ite ?_ ?_)
      | (with_reducible refine LeO.bind ?_ (fun _ => ?_))
      | exact ih0 _ _
      | exact ih1 _ _ _
      | exact railplanref1_Number.mono _ _
      | exact LeO.none _
      | refine LeO.ite ?_ ?_
      | refine LeO.bind ?_ (fun _ => ?_)
    · intro y0 y1 y2
      unfold railplanref1_Range.j1
      repeat' first
      | (with_reducible exact ih0 _ _)
      | (with_reducible exact ih1 _ _ _)
      | (with_reducible exact railplanref1_Number.mono _ _)
      | (with_reducible exact LeO.refl _)
      | (with_reducible exact LeO.none _)
      | (with_reducible refine LeO.ite ?_ ?_)
      | (with_reducible refine LeO.bind ?_ (fun _ => ?_))
      | exact ih0 _ _
      | exact ih1 _ _ _
      | exact railplanref1_Number.mono _ _
      | exact LeO.none _
      | refine LeO.ite ?_ ?_
      | refine LeO.bind ?_ (fun _ => ?_)
theorem railplanref1_Range.mono : ∀ a0 k, LeO (railplanref1_Range.f k a0) (railplanref1_Range.f (k + 1) a0) := by
  intro a0 k
  obtain ⟨ih0, ih1⟩ := railplanref1_Range.mono_l k
  unfold railplanref1_Range.f
  repeat' first
      | (with_reducible exact ih0 _ _)
      | (with_reducible exact ih1 _ _ _)
      | (with_reducible exact railplanref1_Number.mono _ _)
      | (with_reducible exact LeO.refl _)
      | (with_reducible exact LeO.none _)
      | (with_reducible refine LeO.ite ?_ ?_)
      | (with_reducible refine LeO.bind ?_ (fun _ => ?_))
      | exact ih0 _ _
      | exact ih1 _ _ _
      | exact railplanref1_Number.mono _ _
      | exact LeO.none _
      | refine LeO.ite ?_ ?_
      | refine LeO.bind ?_ (fun _ => ?_)
set_option maxHeartbeats 8000000 in
set_option maxRecDepth 100000 in
theorem railplanref1_Range.calls (k : Nat) (a0 : ByteArray) (r1 : Int) (r2 : Int) (r3 : Bool) (w : World) (h : railplanref1_Range.f k a0 = some (r1, r2, r3)) :
    Calls Tryd.prog 25 #[.string a0] w fun e w' => e = .returned (.tuple #[.int .i64 r1, .int .i64 r2, .bool r3]) ∧ Drawn0 w w' := by
  have H : (railplanref1_Range.l0 k a0 0) = some (r1, r2, r3) := h
  clear h
  have H' := Aside0.mk H
  clear H
  go_enter Tryd.func25, Tryd.ntmps25
  go_wp2
  go_loopg [5] k (fun kq v5 w' => ∃ (x5_1 : Int), v5 = .int .i64 x5_1 ∧ Aside0 (railplanref1_Range.l0 kq a0 x5_1 = some (r1, r2, r3)) ∧ Aside0 (kq ≤ k) ∧ Drawn0 w w')
  case atStart => exact ⟨(0), (by first | rfl | (simp; done) | (simp [*]; done)), H', ⟨Nat.le_refl _⟩, by repeat (first | exact Drawn0.refl _ | apply Drawn0.step)⟩
  case round =>
    clear H'
    obtain ⟨x5_1, rfl, HA, HK1, ⟨m1, rfl⟩⟩ := hrel
    cases gk with
    | zero => exact absurd HA.out (by simp [railplanref1_Range.l0])
    | succ k1 =>
      have H := HA.out
      clear HA
      simp only [railplanref1_Range.l0] at H
      by_cases c2 : (wrap64 (x5_1 + 1)) < (a0.size : Int)
      · rw [if_pos c2] at H
        have c2b0 : decide ((wrap64 (x5_1 + 1)) < (a0.size : Int)) = true := decide_eq_true c2
        clear c2
        have HC3 := Aside0.mk H
        clear H
        go_upto_region 4 with (fail)
        go_cut [27] (fun v27 wc => ∃ (kq : Nat) (x27_2 : Bool), v27 = .bool x27_2 ∧ Aside0 (railplanref1_Range.j1 kq a0 x5_1 x27_2 = some (r1, r2, r3)) ∧ Aside0 (kq ≤ k1) ∧ Drawn0 w wc)
        case first =>
          have H := HC3.out
          clear HC3
          by_cases c4 : 0 ≤ x5_1
          · rw [if_pos c4] at H
            have c4b0 : decide (0 ≤ x5_1) = true := decide_eq_true c4
            clear c4
            (first | rw [c4b0] | (simp only [i64_w, i32_w]; rw [c4b0]) | rw [c4b1] | skip)
            by_cases c5 : x5_1 < (a0.size : Int)
            · rw [if_pos c5] at H
              have c5b0 : decide (x5_1 < (a0.size : Int)) = true := decide_eq_true c5
              clear c5
              by_cases c7 : (bt a0 x5_1) = 46
              · rw [if_pos c7] at H
                have c7b0 : ((bt a0 x5_1) == 46) = true := beq_iff_eq.mpr c7
                have c7b1 : ((bt a0 x5_1) != 46) = false := bne_eq_false_iff_eq.mpr c7
                clear c7
                obtain ⟨ji8, hji8⟩ : ∃ j_ : Int, (wrap64 (x5_1 + 1)) = j_ := ⟨_, rfl⟩
                replace H : (if 0 ≤ (ji8) then (railplanref1_Range.j1 k1 a0 x5_1 ((bt a0 (ji8)) == 46)) else (none)) = some (r1, r2, r3) := by first | (rw [hji8] at H; exact H) | (simp only [hji8] at H ⊢; exact H)
                (try rw [hji8] at c2b0)
                have hji8w : (IntKind.i64.wrap (x5_1 + 1)) = ji8 := (i64_w _).trans hji8
                by_cases c9 : 0 ≤ (ji8)
                · rw [if_pos c9] at H
                  have c9b0 : decide (0 ≤ (ji8)) = true := decide_eq_true c9
                  clear c9
                  have H' := Aside0.mk H
                  clear H
                  have p6 : 0 ≤ (x5_1 : Int) := of_decide_eq_true (by first | (with_reducible assumption) | assumption)
                  have q6 : x5_1 < (a0.size : Int) := of_decide_eq_true (by first | (with_reducible assumption) | assumption)
                  have hx6 := bt_at a0 x5_1
                  replace p6 := eq_true p6
                  replace q6 := eq_true q6
                  have p10 : 0 ≤ ((ji8) : Int) := of_decide_eq_true (by first | (with_reducible assumption) | assumption)
                  have q10 : (ji8) < (a0.size : Int) := of_decide_eq_true (by first | (with_reducible assumption) | assumption)
                  have hx10 := bt_at a0 (ji8)
                  replace p10 := eq_true p10
                  replace q10 := eq_true q10
                  go_wp2
                  go_meet
                  case rel => exact ⟨_, (((bt a0 (ji8)) == 46)), (by first | rfl | (simp; done) | (simp only [← hji8] <;> (first | rfl | simp)) | (simp [*]; done)), H', ⟨by have := HK1.out; first | omega | exact Nat.le_refl _⟩, by repeat (first | exact Drawn0.refl _ | apply Drawn0.step)⟩
                · rw [if_neg c9] at H
                  exact absurd H (by simp)
              · rw [if_neg c7] at H
                have c7b0 : ((bt a0 x5_1) == 46) = false := beq_eq_false_iff_ne.mpr c7
                have c7b1 : ((bt a0 x5_1) != 46) = true := bne_iff_ne.mpr c7
                have H' := Aside0.mk H
                clear H
                have p6 : 0 ≤ (x5_1 : Int) := of_decide_eq_true (by first | (with_reducible assumption) | assumption)
                have q6 : x5_1 < (a0.size : Int) := of_decide_eq_true (by first | (with_reducible assumption) | assumption)
                have hx6 := bt_at a0 x5_1
                replace p6 := eq_true p6
                replace q6 := eq_true q6
                go_wp2
                go_meet
                case rel => exact ⟨_, (false), (by first | rfl | (simp; done) | (simp [*]; done)), H', ⟨by have := HK1.out; first | omega | exact Nat.le_refl _⟩, by repeat (first | exact Drawn0.refl _ | apply Drawn0.step)⟩
            · rw [if_neg c5] at H
              exact absurd H (by simp)
          · rw [if_neg c4] at H
            exact absurd H (by simp)
        case rest =>
          clear HC3
          try clear p1
          try clear q1
          try clear hx1
          try clear c2
          try clear c2b0
          try clear p2
          try clear c4
          try clear c4b0
          try clear c4b1
          try clear c5
          try clear c5b0
          try clear p6
          try clear q6
          try clear hx6
          try clear c7
          try clear c7b0
          try clear c7b1
          try clear c9
          try clear c9b0
          try clear p10
          try clear q10
          try clear hx10
          try clear p10
          try clear p6
          try clear q10
          try clear q6
          obtain ⟨kq, x27_2, rfl, HA, HJ2, ⟨mc2, rfl⟩⟩ := hcut
          cases kq with
          | zero => exact absurd HA.out (by simp [railplanref1_Range.j1])
          | succ kj2 =>
            have H := HA.out
            clear HA
            simp only [railplanref1_Range.j1] at H
            by_cases c11 : x27_2 = true
            · subst c11
              have H1 : (if 0 ≤ x5_1 then (if x5_1 ≤ (a0.size : Int) then ((railplanref1_Number.f kj2 (a0.extract 0 (x5_1 : Int).toNat)).bind fun bt235 => (if 0 ≤ (wrap64 (x5_1 + 2)) then (if (wrap64 (x5_1 + 2)) ≤ (a0.size : Int) then ((railplanref1_Number.f kj2 (a0.extract ((wrap64 (x5_1 + 2)) : Int).toNat a0.size)).bind fun bt237 => (if bt235.2 = true then (if bt237.2 = true then (if bt235.1 > bt237.1 then (some (0, 0, false)) else (some (bt235.1, bt237.1, true))) else (some (0, 0, false))) else (some (0, 0, false)))) else (none)) else (none))) else (none)) else (none)) = some (r1, r2, r3) := by rw [if_pos rfl] at H; exact H
              clear H
              have H := H1
              clear H1
              by_cases c12 : 0 ≤ x5_1
              · rw [if_pos c12] at H
                have c12b0 := eq_true c12
                have c12b1 : decide (0 ≤ x5_1) = true := decide_eq_true c12
                clear c12
                by_cases c13 : x5_1 ≤ (a0.size : Int)
                · rw [if_pos c13] at H
                  have c13b0 := eq_true c13
                  have c13b1 : decide (x5_1 ≤ (a0.size : Int)) = true := decide_eq_true c13
                  clear c13
                  replace H := Option.bind_eq_some_iff.mp H
                  obtain ⟨⟨t235, t236⟩, A140, H⟩ := H
                  replace H : (if 0 ≤ (wrap64 (x5_1 + 2)) then (if (wrap64 (x5_1 + 2)) ≤ (a0.size : Int) then ((railplanref1_Number.f kj2 (a0.extract ((wrap64 (x5_1 + 2)) : Int).toNat a0.size)).bind fun bt237 => (if t236 = true then (if bt237.2 = true then (if t235 > bt237.1 then (some (0, 0, false)) else (some (t235, bt237.1, true))) else (some (0, 0, false))) else (some (0, 0, false)))) else (none)) else (none)) = some (r1, r2, r3) := H
                  have A14 := Aside0.mk A140
                  clear A140
                  obtain ⟨ji15, hji15⟩ : ∃ j_ : Int, (wrap64 (x5_1 + 2)) = j_ := ⟨_, rfl⟩
                  replace H : (if 0 ≤ (ji15) then (if (ji15) ≤ (a0.size : Int) then ((railplanref1_Number.f kj2 (a0.extract ((ji15) : Int).toNat a0.size)).bind fun bt237 => (if t236 = true then (if bt237.2 = true then (if t235 > bt237.1 then (some (0, 0, false)) else (some (t235, bt237.1, true))) else (some (0, 0, false))) else (some (0, 0, false)))) else (none)) else (none)) = some (r1, r2, r3) := by first | (rw [hji15] at H; exact H) | (simp only [hji15] at H ⊢; exact H)
                  (try rw [hji15] at A14)
                  have hji15w : (IntKind.i64.wrap (x5_1 + 2)) = ji15 := (i64_w _).trans hji15
                  by_cases c16 : 0 ≤ (ji15)
                  · rw [if_pos c16] at H
                    have c16b0 := eq_true c16
                    have c16b1 : decide (0 ≤ (ji15)) = true := decide_eq_true c16
                    clear c16
                    by_cases c17 : (ji15) ≤ (a0.size : Int)
                    · rw [if_pos c17] at H
                      have c17b0 := eq_true c17
                      have c17b1 : decide ((ji15) ≤ (a0.size : Int)) = true := decide_eq_true c17
                      clear c17
                      replace H := Option.bind_eq_some_iff.mp H
                      obtain ⟨⟨t237, t238⟩, A180, H⟩ := H
                      replace H : (if t236 = true then (if t238 = true then (if t235 > t237 then (some (0, 0, false)) else (some (t235, t237, true))) else (some (0, 0, false))) else (some (0, 0, false))) = some (r1, r2, r3) := H
                      have A18 := Aside0.mk A180
                      clear A180
                      by_cases c19 : t236 = true
                      · subst c19
                        have H1 : (if t238 = true then (if t235 > t237 then (some (0, 0, false)) else (some (t235, t237, true))) else (some (0, 0, false))) = some (r1, r2, r3) := by rw [if_pos rfl] at H; exact H
                        clear H
                        have H := H1
                        clear H1
                        by_cases c20 : t238 = true
                        · subst c20
                          have H1 : (if t235 > t237 then (some (0, 0, false)) else (some (t235, t237, true))) = some (r1, r2, r3) := by rw [if_pos rfl] at H; exact H
                          clear H
                          have H := H1
                          clear H1
                          by_cases c21 : t235 > t237
                          · rw [if_pos c21] at H
                            have c21b0 : decide (t237 < t235) = true := decide_eq_true c21
                            clear c21
                            simp only [Option.some.injEq, Prod.mk.injEq] at H
                            obtain ⟨rfl, rfl, rfl⟩ := H
                            go_wp2_with (first | ((with_reducible refine gate_callee (f := 24) rfl ?_); refine goesL_ (some 32) rfl rfl Tryd.func24 (by kernel_rfl) rfl #[.string (a0.extract 0 (x5_1 : Int).toNat)] rfl (by (try simp only [List.map_toArray, List.map_cons, List.map_nil]); first | done | rfl | (simp only [List.length_drop, List.length_take]; rfl)) ?_; (with_reducible refine (railplanref1_Number.calls kj2 (a0.extract 0 (x5_1 : Int).toNat) t235 true _ A14.out).mono ?_); rintro e w' ⟨rfl, ⟨nd, rfl⟩⟩; refine ⟨_, rfl, ?_⟩) | ((with_reducible refine gate_callee (f := 24) rfl ?_); refine goesL_ (some 40) rfl rfl Tryd.func24 (by kernel_rfl) rfl #[.string (a0.extract ((ji15) : Int).toNat a0.size)] rfl (by (try simp only [List.map_toArray, List.map_cons, List.map_nil]); first | done | (simp only [hji15]; rfl) | rfl | (simp only [List.length_drop, List.length_take]; rfl)) ?_; (with_reducible refine (railplanref1_Number.calls kj2 (a0.extract ((ji15) : Int).toNat a0.size) t237 true _ A18.out).mono ?_); rintro e w' ⟨rfl, ⟨nd, rfl⟩⟩; refine ⟨_, rfl, ?_⟩))
                            go_ret3
                            exact ⟨by first | rfl | (simp; done) | (simp only [← hji15] <;> (first | rfl | simp)) | (simp [*]; done), by repeat (first | exact Drawn0.refl _ | apply Drawn0.step)⟩
                          · rw [if_neg c21] at H
                            have c21b0 : decide (t237 < t235) = false := decide_eq_false c21
                            clear c21
                            simp only [Option.some.injEq, Prod.mk.injEq] at H
                            obtain ⟨rfl, rfl, rfl⟩ := H
                            go_wp2_with (first | ((with_reducible refine gate_callee (f := 24) rfl ?_); refine goesL_ (some 32) rfl rfl Tryd.func24 (by kernel_rfl) rfl #[.string (a0.extract 0 (x5_1 : Int).toNat)] rfl (by (try simp only [List.map_toArray, List.map_cons, List.map_nil]); first | done | rfl | (simp only [List.length_drop, List.length_take]; rfl)) ?_; (with_reducible refine (railplanref1_Number.calls kj2 (a0.extract 0 (x5_1 : Int).toNat) t235 true _ A14.out).mono ?_); rintro e w' ⟨rfl, ⟨nd, rfl⟩⟩; refine ⟨_, rfl, ?_⟩) | ((with_reducible refine gate_callee (f := 24) rfl ?_); refine goesL_ (some 40) rfl rfl Tryd.func24 (by kernel_rfl) rfl #[.string (a0.extract ((ji15) : Int).toNat a0.size)] rfl (by (try simp only [List.map_toArray, List.map_cons, List.map_nil]); first | done | (simp only [hji15]; rfl) | rfl | (simp only [List.length_drop, List.length_take]; rfl)) ?_; (with_reducible refine (railplanref1_Number.calls kj2 (a0.extract ((ji15) : Int).toNat a0.size) t237 true _ A18.out).mono ?_); rintro e w' ⟨rfl, ⟨nd, rfl⟩⟩; refine ⟨_, rfl, ?_⟩))
                            go_ret3
                            exact ⟨by first | rfl | (simp; done) | (simp only [← hji15] <;> (first | rfl | simp)) | (simp [*]; done), by repeat (first | exact Drawn0.refl _ | apply Drawn0.step)⟩
                        · replace c20 := Bool.eq_false_iff.mpr c20
                          subst c20
                          have H1 : (some (0, 0, false)) = some (r1, r2, r3) := by rw [if_neg (show ¬ (false = true) by decide)] at H; exact H
                          clear H
                          have H := H1
                          clear H1
                          simp only [Option.some.injEq, Prod.mk.injEq] at H
                          obtain ⟨rfl, rfl, rfl⟩ := H
                          go_wp2_with (first | ((with_reducible refine gate_callee (f := 24) rfl ?_); refine goesL_ (some 32) rfl rfl Tryd.func24 (by kernel_rfl) rfl #[.string (a0.extract 0 (x5_1 : Int).toNat)] rfl (by (try simp only [List.map_toArray, List.map_cons, List.map_nil]); first | done | rfl | (simp only [List.length_drop, List.length_take]; rfl)) ?_; (with_reducible refine (railplanref1_Number.calls kj2 (a0.extract 0 (x5_1 : Int).toNat) t235 true _ A14.out).mono ?_); rintro e w' ⟨rfl, ⟨nd, rfl⟩⟩; refine ⟨_, rfl, ?_⟩) | ((with_reducible refine gate_callee (f := 24) rfl ?_); refine goesL_ (some 40) rfl rfl Tryd.func24 (by kernel_rfl) rfl #[.string (a0.extract ((ji15) : Int).toNat a0.size)] rfl (by (try simp only [List.map_toArray, List.map_cons, List.map_nil]); first | done | (simp only [hji15]; rfl) | rfl | (simp only [List.length_drop, List.length_take]; rfl)) ?_; (with_reducible refine (railplanref1_Number.calls kj2 (a0.extract ((ji15) : Int).toNat a0.size) t237 false _ A18.out).mono ?_); rintro e w' ⟨rfl, ⟨nd, rfl⟩⟩; refine ⟨_, rfl, ?_⟩))
                          go_ret3
                          exact ⟨by first | rfl | (simp; done) | (simp only [← hji15] <;> (first | rfl | simp)) | (simp [*]; done), by repeat (first | exact Drawn0.refl _ | apply Drawn0.step)⟩
                      · replace c19 := Bool.eq_false_iff.mpr c19
                        subst c19
                        have H1 : (some (0, 0, false)) = some (r1, r2, r3) := by rw [if_neg (show ¬ (false = true) by decide)] at H; exact H
                        clear H
                        have H := H1
                        clear H1
                        simp only [Option.some.injEq, Prod.mk.injEq] at H
                        obtain ⟨rfl, rfl, rfl⟩ := H
                        go_wp2_with (first | ((with_reducible refine gate_callee (f := 24) rfl ?_); refine goesL_ (some 32) rfl rfl Tryd.func24 (by kernel_rfl) rfl #[.string (a0.extract 0 (x5_1 : Int).toNat)] rfl (by (try simp only [List.map_toArray, List.map_cons, List.map_nil]); first | done | rfl | (simp only [List.length_drop, List.length_take]; rfl)) ?_; (with_reducible refine (railplanref1_Number.calls kj2 (a0.extract 0 (x5_1 : Int).toNat) t235 false _ A14.out).mono ?_); rintro e w' ⟨rfl, ⟨nd, rfl⟩⟩; refine ⟨_, rfl, ?_⟩) | ((with_reducible refine gate_callee (f := 24) rfl ?_); refine goesL_ (some 40) rfl rfl Tryd.func24 (by kernel_rfl) rfl #[.string (a0.extract ((ji15) : Int).toNat a0.size)] rfl (by (try simp only [List.map_toArray, List.map_cons, List.map_nil]); first | done | (simp only [hji15]; rfl) | rfl | (simp only [List.length_drop, List.length_take]; rfl)) ?_; (with_reducible refine (railplanref1_Number.calls kj2 (a0.extract ((ji15) : Int).toNat a0.size) t237 t238 _ A18.out).mono ?_); rintro e w' ⟨rfl, ⟨nd, rfl⟩⟩; refine ⟨_, rfl, ?_⟩))
                        go_ret3
                        exact ⟨by first | rfl | (simp; done) | (simp only [← hji15] <;> (first | rfl | simp)) | (simp [*]; done), by repeat (first | exact Drawn0.refl _ | apply Drawn0.step)⟩
                    · rw [if_neg c17] at H
                      exact absurd H (by simp)
                  · rw [if_neg c16] at H
                    exact absurd H (by simp)
                · rw [if_neg c13] at H
                  exact absurd H (by simp)
              · rw [if_neg c12] at H
                exact absurd H (by simp)
            · replace c11 := Bool.eq_false_iff.mpr c11
              subst c11
              have H1 : (railplanref1_Range.l0 kj2 a0 (wrap64 (x5_1 + 1))) = some (r1, r2, r3) := by rw [if_neg (show ¬ (false = true) by decide)] at H; exact H
              clear H
              have H := H1
              clear H1
              have H' := Aside0.mk H
              clear H
              go_wp2
              go_roundg kj2
              case measure => have := HK1.out; have := HJ2.out; omega
              case rel => exact ⟨(wrap64 (x5_1 + 1)), (by first | rfl | (simp; done) | (simp [*]; done)), H', ⟨by have := HK1.out; have := HJ2.out; omega⟩, by repeat (first | exact Drawn0.refl _ | apply Drawn0.step)⟩
      · rw [if_neg c2] at H
        have c2b0 : decide ((wrap64 (x5_1 + 1)) < (a0.size : Int)) = false := decide_eq_false c2
        clear c2
        simp only [Option.some.injEq, Prod.mk.injEq] at H
        obtain ⟨rfl, rfl, rfl⟩ := H
        go_wp2
        go_ret3
        exact ⟨by first | rfl | (simp; done) | (simp [*]; done), by repeat (first | exact Drawn0.refl _ | apply Drawn0.step)⟩

/-! ### railplanlaw3_WordsNumbers: function 9 -/
def railplanlaw3_WordsNumbers.l0 : Nat → List ByteArray → Int → Int → Option (Bool)
  | 0, _, _, _ => none
  | k + 1, x6, x33, x34 => if x34 < x33 then (if 0 ≤ x34 then (if x34 < (x6.length : Int) then ((words_Number.f (rdOf ByteArray.empty x6 x34)).bind fun bt245 => ((railplanref1_Number.f k (rdOf ByteArray.empty x6 x34)).bind fun bt248 => ((words_Range.f (rdOf ByteArray.empty x6 x34)).bind fun bt251 => ((railplanref1_Range.f k (rdOf ByteArray.empty x6 x34)).bind fun bt255 => (if bt245.1 = bt248.1 then (if (bt245.2 != bt248.2) = true then (some false) else (if bt251.1 = bt255.1 then (if bt251.2.1 = bt255.2.1 then (if (bt251.2.2 != bt255.2.2) = true then (some false) else (railplanlaw3_WordsNumbers.l0 k x6 x33 (wrap64 (x34 + 1)))) else (some false)) else (some false))) else (some false)))))) else (none)) else (none)) else ((railplanlaw3_awake.f k).bind fun t243 => (some t243))
def railplanlaw3_WordsNumbers.f (k : Nat) (a0 : ByteArray) (l1 : List Int) : Option (Bool) := (railplanlaw3_pieces.f k l1).bind fun t239 => (if 0 ≤ (mn (t239.size : Int) 12) then (if (mn (t239.size : Int) 12) ≤ (t239.size : Int) then (if 0 ≤ (mn (t239.size : Int) 3) then (if (mn (t239.size : Int) 3) ≤ (t239.size : Int) then ((some (([a0, t239.extract 0 ((mn (t239.size : Int) 12) : Int).toNat, t239.extract 0 ((mn (t239.size : Int) 3) : Int).toNat] : List ByteArray) : List ByteArray)).bind fun y240 => (railplanlaw3_WordsNumbers.l0 k y240 (y240.length : Int) 0)) else (none)) else (none)) else (none)) else (none))
theorem railplanlaw3_WordsNumbers.mono_l : ∀ k, (∀ y0 y1 y2, LeO (railplanlaw3_WordsNumbers.l0 k y0 y1 y2) (railplanlaw3_WordsNumbers.l0 (k + 1) y0 y1 y2))
  | 0 => fun _ _ _ r h => by simp [railplanlaw3_WordsNumbers.l0] at h
  | k + 1 => by
    have ih0 := railplanlaw3_WordsNumbers.mono_l k
    · intro y0 y1 y2
      unfold railplanlaw3_WordsNumbers.l0
      repeat' first
      | (with_reducible exact ih0 _ _ _)
      | (with_reducible exact railplanlaw3_awake.mono _)
      | (with_reducible exact railplanlaw3_pieces.mono _ _)
      | (with_reducible exact railplanref1_Number.mono _ _)
      | (with_reducible exact railplanref1_Range.mono _ _)
      | (with_reducible exact LeO.refl _)
      | (with_reducible exact LeO.none _)
      | (with_reducible refine LeO.ite ?_ ?_)
      | (with_reducible refine LeO.bind ?_ (fun _ => ?_))
      | exact ih0 _ _ _
      | exact railplanlaw3_awake.mono _
      | exact railplanlaw3_pieces.mono _ _
      | exact railplanref1_Number.mono _ _
      | exact railplanref1_Range.mono _ _
      | exact LeO.none _
      | refine LeO.ite ?_ ?_
      | refine LeO.bind ?_ (fun _ => ?_)
theorem railplanlaw3_WordsNumbers.mono : ∀ a0 a1 k, LeO (railplanlaw3_WordsNumbers.f k a0 a1) (railplanlaw3_WordsNumbers.f (k + 1) a0 a1) := by
  intro a0 a1 k
  have ih0 := railplanlaw3_WordsNumbers.mono_l k
  unfold railplanlaw3_WordsNumbers.f
  repeat' first
      | (with_reducible exact ih0 _ _ _)
      | (with_reducible exact railplanlaw3_awake.mono _)
      | (with_reducible exact railplanlaw3_pieces.mono _ _)
      | (with_reducible exact railplanref1_Number.mono _ _)
      | (with_reducible exact railplanref1_Range.mono _ _)
      | (with_reducible exact LeO.refl _)
      | (with_reducible exact LeO.none _)
      | (with_reducible refine LeO.ite ?_ ?_)
      | (with_reducible refine LeO.bind ?_ (fun _ => ?_))
      | exact ih0 _ _ _
      | exact railplanlaw3_awake.mono _
      | exact railplanlaw3_pieces.mono _ _
      | exact railplanref1_Number.mono _ _
      | exact railplanref1_Range.mono _ _
      | exact LeO.none _
      | refine LeO.ite ?_ ?_
      | refine LeO.bind ?_ (fun _ => ?_)
def railplanlaw3_WordsNumbers.T2 : Bool × List (List Nat × List Nat) := (true, [([], []), ([], []), ([], []), ([2], [2]), ([3], [3]), ([1, 4], [1, 4]), ([], []), ([], []), ([7], [7]), ([8], [8]), ([6, 9], [6, 9]), ([0, 5, 10], [0, 5, 10]), ([11, 0, 1, 2, 3, 4, 5, 6, 7, 8, 9, 10, 11], [11])])
def railplanlaw3_WordsNumbers.B2 : List Nat := [0, 0, 0, 4, 12, 30, 0, 0, 128, 384, 960, 2047, 4095]
theorem railplanlaw3_WordsNumbers.tab2 : rtab .any (opsOf Tryd.f9 2) = railplanlaw3_WordsNumbers.T2 := by kernel_rfl
theorem railplanlaw3_WordsNumbers.bits2 : waitsOk railplanlaw3_WordsNumbers.T2.2 railplanlaw3_WordsNumbers.B2 = true := by kernel_rfl
set_option maxHeartbeats 8000000 in
set_option maxRecDepth 100000 in
theorem railplanlaw3_WordsNumbers.calls (k : Nat) (a0 : ByteArray) (A1 : Option Addr) (c1 : Nat) (l1 : List Int) (r : Bool) (w : World) (hr1 : Kd.C (Kd.int .u8) w A1 l1.length l1) (hc1 : l1.length ≤ c1) (hL_ : Aside0 (Laid w)) (hr_ : Aside0 (r = true)) (h : railplanlaw3_WordsNumbers.f k a0 l1 = some r) :
    Calls Tryd.prog 9 #[.string a0, .slice A1 l1.length c1] w fun e w' => e = .returned (.bool r) ∧ Below w.heap.size w w' := by
  have HR1 := Aside0.mk hr1
  have HC1 := Aside0.mk hc1
  clear hr1 hc1
  have HB := Aside0.mk (Below.refl w.heap.size w)
  have H : ((railplanlaw3_pieces.f k l1).bind fun t239 => (if 0 ≤ (mn (t239.size : Int) 12) then (if (mn (t239.size : Int) 12) ≤ (t239.size : Int) then (if 0 ≤ (mn (t239.size : Int) 3) then (if (mn (t239.size : Int) 3) ≤ (t239.size : Int) then ((some (([a0, t239.extract 0 ((mn (t239.size : Int) 12) : Int).toNat, t239.extract 0 ((mn (t239.size : Int) 3) : Int).toNat] : List ByteArray) : List ByteArray)).bind fun y240 => (railplanlaw3_WordsNumbers.l0 k y240 (y240.length : Int) 0)) else (none)) else (none)) else (none)) else (none))) = some r := h
  clear h
  replace H := Option.bind_eq_some_iff.mp H
  obtain ⟨t239, A30, H⟩ := H
  replace H : (if 0 ≤ (mn (t239.size : Int) 12) then (if (mn (t239.size : Int) 12) ≤ (t239.size : Int) then (if 0 ≤ (mn (t239.size : Int) 3) then (if (mn (t239.size : Int) 3) ≤ (t239.size : Int) then ((some (([a0, t239.extract 0 ((mn (t239.size : Int) 12) : Int).toNat, t239.extract 0 ((mn (t239.size : Int) 3) : Int).toNat] : List ByteArray) : List ByteArray)).bind fun y240 => (railplanlaw3_WordsNumbers.l0 k y240 (y240.length : Int) 0)) else (none)) else (none)) else (none)) else (none)) = some r := H
  have A3 := Aside0.mk A30
  clear A30
  obtain ⟨ji4, hji4⟩ : ∃ j_ : Int, (mn (t239.size : Int) 12) = j_ := ⟨_, rfl⟩
  replace H : (if 0 ≤ (ji4) then (if (ji4) ≤ (t239.size : Int) then (if 0 ≤ (mn (t239.size : Int) 3) then (if (mn (t239.size : Int) 3) ≤ (t239.size : Int) then ((some (([a0, t239.extract 0 ((ji4) : Int).toNat, t239.extract 0 ((mn (t239.size : Int) 3) : Int).toNat] : List ByteArray) : List ByteArray)).bind fun y240 => (railplanlaw3_WordsNumbers.l0 k y240 (y240.length : Int) 0)) else (none)) else (none)) else (none)) else (none)) = some r := by first | (rw [hji4] at H; exact H) | (simp only [hji4] at H ⊢; exact H)
  (try rw [hji4] at A3)
  (try (have hji4h : ji4 ≤ 12 := by (rw [← hji4]; unfold mn; (repeat' split) <;> omega)))
  (try (have hji4g : ji4 ≤ 64 := by omega))
  (try (have hji4l : 0 ≤ ji4 := by (rw [← hji4]; unfold mn; (repeat' split) <;> omega)))
  (try (have hji4m : 0 ≤ ji4 := by omega))
  have hji4_ : (if 12 < (t239.size : Int) then 12 else (t239.size : Int)) = ji4 := hji4
  by_cases c5 : 0 ≤ (ji4)
  · rw [if_pos c5] at H
    have c5b0 := eq_true c5
    have c5b1 : decide (0 ≤ (ji4)) = true := decide_eq_true c5
    clear c5
    by_cases c6 : (ji4) ≤ (t239.size : Int)
    · rw [if_pos c6] at H
      have c6b0 := eq_true c6
      have c6b1 : decide ((ji4) ≤ (t239.size : Int)) = true := decide_eq_true c6
      clear c6
      obtain ⟨ji7, hji7⟩ : ∃ j_ : Int, (mn (t239.size : Int) 3) = j_ := ⟨_, rfl⟩
      replace H : (if 0 ≤ (ji7) then (if (ji7) ≤ (t239.size : Int) then ((some (([a0, t239.extract 0 ((ji4) : Int).toNat, t239.extract 0 ((ji7) : Int).toNat] : List ByteArray) : List ByteArray)).bind fun y240 => (railplanlaw3_WordsNumbers.l0 k y240 (y240.length : Int) 0)) else (none)) else (none)) = some r := by first | (rw [hji7] at H; exact H) | (simp only [hji7] at H ⊢; exact H)
      (try rw [hji7] at A3)
      (try (have hji7h : ji7 ≤ 3 := by (rw [← hji7]; unfold mn; (repeat' split) <;> omega)))
      (try (have hji7g : ji7 ≤ 64 := by omega))
      (try (have hji7l : 0 ≤ ji7 := by (rw [← hji7]; unfold mn; (repeat' split) <;> omega)))
      (try (have hji7m : 0 ≤ ji7 := by omega))
      have hji7_ : (if 3 < (t239.size : Int) then 3 else (t239.size : Int)) = ji7 := hji7
      by_cases c8 : 0 ≤ (ji7)
      · rw [if_pos c8] at H
        have c8b0 := eq_true c8
        have c8b1 : decide (0 ≤ (ji7)) = true := decide_eq_true c8
        clear c8
        by_cases c9 : (ji7) ≤ (t239.size : Int)
        · rw [if_pos c9] at H
          have c9b0 := eq_true c9
          have c9b1 : decide ((ji7) ≤ (t239.size : Int)) = true := decide_eq_true c9
          clear c9
          obtain ⟨y240, hy240⟩ : ∃ y_ : List ByteArray, y_ = (([a0, t239.extract 0 ((ji4) : Int).toNat, t239.extract 0 ((ji7) : Int).toNat] : List ByteArray)) := ⟨_, rfl⟩
          replace H : (railplanlaw3_WordsNumbers.l0 k y240 (y240.length : Int) 0) = some r := by first | (rw [hy240]; with_reducible exact H) | (have H2_ := (Option.bind_some _ _).symm.trans H; rw [hy240]; with_reducible exact H2_) | (have H2_ := (Option.bind_some _ _).symm.trans H; with_reducible exact H2_) | with_reducible exact H | (rw [hy240]; exact H) | exact H
          have Ny240 := Aside0.mk hy240
          clear hy240
          have H' := Aside0.mk H
          clear H
          go_enter Tryd.func9, Tryd.ntmps9
          try go_wp2_with (first | ((with_reducible refine gate_callee (f := 17) rfl ?_); refine goesL_ (some 19) rfl rfl Tryd.func17 (by kernel_rfl) rfl #[.slice A1 l1.length c1] rfl (by (try simp only [List.map_toArray, List.map_cons, List.map_nil]); first | done | rfl | (simp only [List.length_drop, List.length_take]; rfl)) ?_; (with_reducible refine (railplanlaw3_pieces.calls k _ _ l1 t239 _ ?side1 ?side2 A3.out).mono ?_); (case side1 => repeat (first | exact HR1.out | (with_reducible refine Kd.C_alloc ?_ _) | (with_reducible refine Kd.C_drewN ?_ _) | (with_reducible refine Kd.C_drew ?_))); (case side2 => exact HC1.out); rintro e w10 ⟨rfl, hb⟩; refine ⟨_, rfl, ?_⟩; have n0_ := Aside0.mk (below_step (by repeat (first | (with_reducible first | exact HB.out | apply below_alloc | apply pw_below_drewN | apply below_drew1) | exact HB.out)) hb); clear HB; have HB := n0_; clear n0_; (try clear hb); (try clear hb2); (try clear hk); (try clear hi)))
          have n0_ := Aside0.mk (below_drew1 HB.out)
          clear HB
          have HB := n0_
          clear n0_
          refine start_ (n := 13) (S := fun w' => True) (ds := []) #[false, false, false, false, false, false, false, false, false, false, false, false, false] (by kernel_rfl) rfl rfl trivial (fun hHeld => ?_); refine with_tabW railplanlaw3_WordsNumbers.tab2 railplanlaw3_WordsNumbers.bits2 (fun HT_ HW_ => ?_)
          generalize w10.drew = w11 at HB hHeld ⊢
          refine pure_ (i := 0) (N := some 20) (v := ?_) (a' := ?_) #[true, false, false, false, false, false, false, false, false, false, false, false, false] rfl rfl (any_of HT_.out (by kernel_rfl)) (fun _ _ _ h => h) (Or.inl ⟨by rfl, ?_⟩) ?_ ?_
          rotate_left
          · intro w'
            go_simp
            with_reducible rfl
          rotate_left
          · simp only [Act.put, List.setIfInBounds_toArray, List.set_cons_zero, List.set_cons_succ, i64_w, i32_w]
            rfl
          refine pure_ (i := 1) (N := some 21) (v := ?_) (a' := ?_) #[true, true, false, false, false, false, false, false, false, false, false, false, false] rfl rfl (any_of HT_.out (by kernel_rfl)) (fun _ _ _ h => h) (Or.inl ⟨by rfl, ?_⟩) ?_ ?_
          rotate_left
          · intro w'
            go_simp
            with_reducible rfl
          rotate_left
          · simp only [Act.put, List.setIfInBounds_toArray, List.set_cons_zero, List.set_cons_succ, i64_w, i32_w]
            rfl
          refine pure_ (i := 2) (N := some 22) (v := ?_) (a' := ?_) #[true, true, true, false, false, false, false, false, false, false, false, false, false] rfl rfl (any_of HT_.out (by kernel_rfl)) (fun _ _ _ h => h) (Or.inl ⟨by rfl, ?_⟩) ?_ ?_
          rotate_left
          · intro w'
            go_simp
            with_reducible rfl
          rotate_left
          · simp only [Act.put, List.setIfInBounds_toArray, List.set_cons_zero, List.set_cons_succ, i64_w, i32_w]
            rfl
          refine pure_ (i := 3) (N := some 23) (v := ?_) (a' := ?_) #[true, true, true, true, false, false, false, false, false, false, false, false, false] rfl rfl (any_of HT_.out (by kernel_rfl)) (fun _ _ _ h => h) (Or.inl ⟨by rfl, ?_⟩) ?_ ?_
          rotate_left
          · intro w'
            go_simp
            with_reducible rfl
          rotate_left
          · simp only [Act.put, List.setIfInBounds_toArray, List.set_cons_zero, List.set_cons_succ, i64_w, i32_w]
            rfl
          refine pure_ (i := 4) (N := some 24) (v := ?_) (a' := ?_) #[true, true, true, true, true, false, false, false, false, false, false, false, false] rfl rfl (any_of HT_.out (by kernel_rfl)) (fun _ _ _ h => h) (Or.inl ⟨by rfl, ?_⟩) ?_ ?_
          rotate_left
          · intro w'
            go_simp
            with_reducible rfl
          rotate_left
          · simp only [Act.put, List.setIfInBounds_toArray, List.set_cons_zero, List.set_cons_succ, i64_w, i32_w]
            rfl
          refine pure_ (i := 5) (N := some 25) (v := ?_) (a' := ?_) #[true, true, true, true, true, true, false, false, false, false, false, false, false] rfl rfl (any_of HT_.out (by kernel_rfl)) (fun _ _ _ h => h) (Or.inl ⟨by rfl, ?_⟩) ?_ ?_
          rotate_left
          · intro w'
            go_simp
            with_reducible rfl
          rotate_left
          · simp only [Act.put, List.setIfInBounds_toArray, List.set_cons_zero, List.set_cons_succ, i64_w, i32_w]
            rfl
          refine pure_ (i := 6) (N := some 26) (v := ?_) (a' := ?_) #[true, true, true, true, true, true, true, false, false, false, false, false, false] rfl rfl (any_of HT_.out (by kernel_rfl)) (fun _ _ _ h => h) (Or.inl ⟨by rfl, ?_⟩) ?_ ?_
          rotate_left
          · intro w'
            go_simp
            with_reducible rfl
          rotate_left
          · simp only [Act.put, List.setIfInBounds_toArray, List.set_cons_zero, List.set_cons_succ, i64_w, i32_w]
            rfl
          refine pure_ (i := 7) (N := some 27) (v := ?_) (a' := ?_) #[true, true, true, true, true, true, true, true, false, false, false, false, false] rfl rfl (any_of HT_.out (by kernel_rfl)) (fun _ _ _ h => h) (Or.inl ⟨by rfl, ?_⟩) ?_ ?_
          rotate_left
          · intro w'
            go_simp
            with_reducible rfl
          rotate_left
          · simp only [Act.put, List.setIfInBounds_toArray, List.set_cons_zero, List.set_cons_succ, i64_w, i32_w]
            rfl
          refine pure_ (i := 8) (N := some 28) (v := ?_) (a' := ?_) #[true, true, true, true, true, true, true, true, true, false, false, false, false] rfl rfl (any_of HT_.out (by kernel_rfl)) (fun _ _ _ h => h) (Or.inl ⟨by rfl, ?_⟩) ?_ ?_
          rotate_left
          · intro w'
            go_simp
            with_reducible rfl
          rotate_left
          · simp only [Act.put, List.setIfInBounds_toArray, List.set_cons_zero, List.set_cons_succ, i64_w, i32_w]
            rfl
          refine pure_ (i := 9) (N := some 29) (v := ?_) (a' := ?_) #[true, true, true, true, true, true, true, true, true, true, false, false, false] rfl rfl (any_of HT_.out (by kernel_rfl)) (fun _ _ _ h => h) (Or.inl ⟨by rfl, ?_⟩) ?_ ?_
          rotate_left
          · intro w'
            go_simp
            with_reducible rfl
          rotate_left
          · simp only [Act.put, List.setIfInBounds_toArray, List.set_cons_zero, List.set_cons_succ, i64_w, i32_w]
            rfl
          refine pure_ (i := 10) (N := some 30) (v := ?_) (a' := ?_) #[true, true, true, true, true, true, true, true, true, true, true, false, false] rfl rfl (any_of HT_.out (by kernel_rfl)) (fun _ _ _ h => h) (Or.inl ⟨by rfl, ?_⟩) ?_ ?_
          rotate_left
          · intro w'
            go_simp
            with_reducible rfl
          rotate_left
          · simp only [Act.put, List.setIfInBounds_toArray, List.set_cons_zero, List.set_cons_succ, i64_w, i32_w]
            rfl
          refine one_ (i := 11) (N := some 31) #[true, true, true, true, true, true, true, true, true, true, true, true, false] rfl rfl (one_of HT_.out (by kernel_rfl)) (by decide) (fun K hK => ?_)
          refine Kd.R_lit_step Kd.string _ 9 ?hg (N := 31) ?hd (xs := ([a0, t239.extract 0 ((ji4) : Int).toNat, t239.extract 0 ((ji7) : Int).toNat] : List ByteArray)) (inner := [.string a0, .string (t239.extract 0 ((ji4) : Int).toNat), .string (t239.extract 0 ((ji7) : Int).toNat)]) (ok := fun _ => True) (okp := fun _ => True) ?hr ?hp (fun _ hk => hk) trivial (Below.refl _ _) (Nat.le_refl _) (by simp) ?_; (case hd => rfl); (case hg => rfl); (case hr => first | (go_simp; done) | (go_simp; rfl)); (case hp => exact (Reps.one (show Kd.M Kd.string _ _ _ a0 [.string a0] from rfl) (Reps.one (show Kd.M Kd.string _ _ _ (t239.extract 0 ((ji4) : Int).toNat) [.string (t239.extract 0 ((ji4) : Int).toNat)] from rfl) (Reps.one (show Kd.M Kd.string _ _ _ (t239.extract 0 ((ji7) : Int).toNat) [.string (t239.extract 0 ((ji7) : Int).toNat)] from rfl) (Reps.none _ _)))))
          intro v241 w12 ho13 hb hg_ hnew_
          clear hg_ hnew_
          (first | rw [← Ny240.out] at ho13 | (simp only [Int.reduceToNat] at ho13; rw [← Ny240.out] at ho13))
          have n0_ := Aside0.mk (Kd.R_lower ho13 (below_size (by repeat (first | (with_reducible first | exact HB.out | apply below_alloc | apply pw_below_drewN | apply below_drew1) | exact HB.out))))
          have n1_ := Aside0.mk (below_step (by repeat (first | (with_reducible first | exact HB.out | apply below_alloc | apply pw_below_drewN | apply below_drew1) | exact HB.out)) hb)
          clear HB
          have HO242 := n0_
          have HB := n1_
          clear n0_ n1_
          clear hb ho13
          refine hK.out _ _ trivial (fun hHeld => ?_)
          clear hK K
          refine norm_ (a' := ?_) ?_ ?_
          rotate_left
          · show Act.put _ (some 31) _ = _
            simp only [Act.put, List.setIfInBounds_toArray, List.set_cons_zero, List.set_cons_succ, i64_w, i32_w]
            rfl
          refine pure_ (i := 12) (N := some 6) (v := ?_) (a' := ?_) #[true, true, true, true, true, true, true, true, true, true, true, true, true] rfl rfl (any_of HT_.out (by kernel_rfl)) (fun _ _ _ h => h) (Or.inl ⟨by rfl, ?_⟩) ?_ ?_
          rotate_left
          · intro w'
            go_simp
            with_reducible rfl
          rotate_left
          · simp only [Act.put, List.setIfInBounds_toArray, List.set_cons_zero, List.set_cons_succ, i64_w, i32_w]
            rfl
          refine done_ (done_of HT_.out (by kernel_rfl)) ?_
          obtain ⟨Ao14, co14, eo14⟩ := Kd.R_slice HO242.out
          subst eo14
          try go_wp2
          go_loopg [34] k (fun kq v34 w' => ∃ (x34_1 : Int), v34 = .int .i64 x34_1 ∧ Aside0 (railplanlaw3_WordsNumbers.l0 kq y240 (y240.length : Int) x34_1 = some r) ∧ Aside0 (kq ≤ k) ∧ Aside0 (Kd.R Kd.string 9 w' w.heap.size (fun _ => True) (.slice Ao14 y240.length co14) y240) ∧ Aside0 (Below w.heap.size w w'))
          case atStart => exact ⟨(0), (by first | rfl | (simp; done) | (simp [*]; done)), H', ⟨Nat.le_refl _⟩, ⟨by (with_reducible repeat (first | apply Kd.R_alloc | apply Kd.R_drewN | apply Kd.R_drew)); exact HO242.out⟩, ⟨by repeat (first | (with_reducible first | exact HB.out | apply below_alloc | apply pw_below_drewN | apply below_drew1) | exact HB.out)⟩⟩
          case round =>
            clear H'
            try clear c1
            try clear p2
            try clear c5
            try clear c5b0
            try clear c5b1
            try clear c6
            try clear c6b0
            try clear c6b1
            try clear c8
            try clear c8b0
            try clear c8b1
            try clear c9
            try clear c9b0
            try clear c9b1
            obtain ⟨x34_1, rfl, HA, HK1, HO_6, HB⟩ := hrel
            cases gk with
            | zero => exact absurd HA.out (by simp [railplanlaw3_WordsNumbers.l0])
            | succ k1 =>
              have H := HA.out
              clear HA
              simp only [railplanlaw3_WordsNumbers.l0] at H
              by_cases c15 : x34_1 < (y240.length : Int)
              · rw [if_pos c15] at H
                have c15b0 : decide (x34_1 < (y240.length : Int)) = true := decide_eq_true c15
                clear c15
                by_cases c16 : 0 ≤ x34_1
                · rw [if_pos c16] at H
                  have c16b0 : decide (0 ≤ x34_1) = true := decide_eq_true c16
                  clear c16
                  by_cases c17 : x34_1 < (y240.length : Int)
                  · rw [if_pos c17] at H
                    have c17b0 : decide (x34_1 < (y240.length : Int)) = true := decide_eq_true c17
                    clear c17
                    replace H := Option.bind_eq_some_iff.mp H
                    obtain ⟨⟨t245, t246⟩, A180, H⟩ := H
                    replace H : ((railplanref1_Number.f k1 (rdOf ByteArray.empty y240 x34_1)).bind fun bt248 => ((words_Range.f (rdOf ByteArray.empty y240 x34_1)).bind fun bt251 => ((railplanref1_Range.f k1 (rdOf ByteArray.empty y240 x34_1)).bind fun bt255 => (if t245 = bt248.1 then (if (t246 != bt248.2) = true then (some false) else (if bt251.1 = bt255.1 then (if bt251.2.1 = bt255.2.1 then (if (bt251.2.2 != bt255.2.2) = true then (some false) else (railplanlaw3_WordsNumbers.l0 k1 y240 (y240.length : Int) (wrap64 (x34_1 + 1)))) else (some false)) else (some false))) else (some false))))) = some r := H
                    have A18 := Aside0.mk A180
                    clear A180
                    replace H := Option.bind_eq_some_iff.mp H
                    obtain ⟨⟨t248, t249⟩, A190, H⟩ := H
                    replace H : ((words_Range.f (rdOf ByteArray.empty y240 x34_1)).bind fun bt251 => ((railplanref1_Range.f k1 (rdOf ByteArray.empty y240 x34_1)).bind fun bt255 => (if t245 = t248 then (if (t246 != t249) = true then (some false) else (if bt251.1 = bt255.1 then (if bt251.2.1 = bt255.2.1 then (if (bt251.2.2 != bt255.2.2) = true then (some false) else (railplanlaw3_WordsNumbers.l0 k1 y240 (y240.length : Int) (wrap64 (x34_1 + 1)))) else (some false)) else (some false))) else (some false)))) = some r := H
                    have A19 := Aside0.mk A190
                    clear A190
                    replace H := Option.bind_eq_some_iff.mp H
                    obtain ⟨⟨t251, t252, t253⟩, A200, H⟩ := H
                    replace H : ((railplanref1_Range.f k1 (rdOf ByteArray.empty y240 x34_1)).bind fun bt255 => (if t245 = t248 then (if (t246 != t249) = true then (some false) else (if t251 = bt255.1 then (if t252 = bt255.2.1 then (if (t253 != bt255.2.2) = true then (some false) else (railplanlaw3_WordsNumbers.l0 k1 y240 (y240.length : Int) (wrap64 (x34_1 + 1)))) else (some false)) else (some false))) else (some false))) = some r := H
                    have A20 := Aside0.mk A200
                    clear A200
                    replace H := Option.bind_eq_some_iff.mp H
                    obtain ⟨⟨t255, t256, t257⟩, A210, H⟩ := H
                    replace H : (if t245 = t248 then (if (t246 != t249) = true then (some false) else (if t251 = t255 then (if t252 = t256 then (if (t253 != t257) = true then (some false) else (railplanlaw3_WordsNumbers.l0 k1 y240 (y240.length : Int) (wrap64 (x34_1 + 1)))) else (some false)) else (some false))) else (some false)) = some r := H
                    have A21 := Aside0.mk A210
                    clear A210
                    by_cases c22 : t245 = t248
                    · rw [if_pos c22] at H
                      have c22b0 : (t245 == t248) = true := beq_iff_eq.mpr c22
                      have c22b1 : (t245 != t248) = false := bne_eq_false_iff_eq.mpr c22
                      clear c22
                      by_cases c23 : (t246 != t249) = true
                      · rw [if_pos c23] at H
                        have c23b0 : (t246 != t249) = true := c23
                        (try (have c23b1 : decide (t246 = t249) = false := by simpa using c23))
                        (try (have c23b2 : (t246 == t249) = false := by simpa using c23))
                        (try (have c23b3 : ¬ (t246 = t249) := by simpa using c23))
                        clear c23
                        obtain rfl := Option.some.inj H
                        exact absurd hr_.out (by decide)
                      · rw [if_neg c23] at H
                        have c23b0 : (t246 != t249) = false := by simpa using c23
                        (try (have c23b1 : decide (t246 = t249) = true := by simpa using c23))
                        (try (have c23b2 : (t246 == t249) = true := by simpa using c23))
                        clear c23
                        by_cases c24 : t251 = t255
                        · rw [if_pos c24] at H
                          have c24b0 : (t251 == t255) = true := beq_iff_eq.mpr c24
                          have c24b1 : (t251 != t255) = false := bne_eq_false_iff_eq.mpr c24
                          clear c24
                          by_cases c25 : t252 = t256
                          · rw [if_pos c25] at H
                            have c25b0 : (t252 == t256) = true := beq_iff_eq.mpr c25
                            have c25b1 : (t252 != t256) = false := bne_eq_false_iff_eq.mpr c25
                            clear c25
                            by_cases c26 : (t253 != t257) = true
                            · rw [if_pos c26] at H
                              have c26b0 : (t253 != t257) = true := c26
                              (try (have c26b1 : decide (t253 = t257) = false := by simpa using c26))
                              (try (have c26b2 : (t253 == t257) = false := by simpa using c26))
                              (try (have c26b3 : ¬ (t253 = t257) := by simpa using c26))
                              clear c26
                              obtain rfl := Option.some.inj H
                              exact absurd hr_.out (by decide)
                            · rw [if_neg c26] at H
                              have c26b0 : (t253 != t257) = false := by simpa using c26
                              (try (have c26b1 : decide (t253 = t257) = true := by simpa using c26))
                              (try (have c26b2 : (t253 == t257) = true := by simpa using c26))
                              clear c26
                              have H' := Aside0.mk H
                              clear H
                              have p244 : 0 ≤ (x34_1 : Int) := of_decide_eq_true (by first | (with_reducible assumption) | assumption)
                              have q244 : x34_1 < (y240.length : Int) := of_decide_eq_true (by first | (with_reducible assumption) | assumption)
                              obtain ⟨ad244, e244, hx244_0⟩ := Kd.at_string (Kd.R_reads' HO_6.out).2.2 x34_1 p244 q244
                              cases e244
                              replace p244 := eq_true p244
                              replace q244 := eq_true q244
                              go_wp2_with (first | ((with_reducible refine gate_callee (f := 14) rfl ?_); refine goesL_ (some 42) rfl rfl Tryd.func14 (by kernel_rfl) rfl #[.string (rdOf ByteArray.empty y240 x34_1)] rfl (by (try simp only [List.map_toArray, List.map_cons, List.map_nil]); first | done | rfl | (simp only [List.length_drop, List.length_take]; rfl)) ?_; (with_reducible refine (words_Number.calls (rdOf ByteArray.empty y240 x34_1) t245 t246 _ ?side1 A18.out).mono ?_); (case side1 => exact ⟨hL_.out.below (by repeat (first | (with_reducible first | exact HB.out | apply below_alloc | apply pw_below_drewN | apply below_drew1) | exact HB.out))⟩); rintro e w27 ⟨rfl, hb⟩; refine ⟨_, rfl, ?_⟩; have n0_ := Aside0.mk (Kd.R_below (by (with_reducible repeat (first | apply Kd.R_alloc | apply Kd.R_drewN | apply Kd.R_drew)); exact HO_6.out) hb); have n1_ := Aside0.mk (below_step (by repeat (first | (with_reducible first | exact HB.out | apply below_alloc | apply pw_below_drewN | apply below_drew1) | exact HB.out)) hb); clear HO_6; clear HB; have HO_6 := n0_; have HB := n1_; clear n0_ n1_; (try clear hb); (try clear hb2); (try clear hk); (try clear hi); have p247 : 0 ≤ (x34_1 : Int) := of_decide_eq_true (by first | (with_reducible assumption) | assumption); have q247 : x34_1 < (y240.length : Int) := of_decide_eq_true (by first | (with_reducible assumption) | assumption); obtain ⟨ad247, e247, hx247_0⟩ := Kd.at_string (Kd.R_reads' HO_6.out).2.2 x34_1 p247 q247; obtain rfl : ad244 = ad247 := (by injection e247); replace p247 := eq_true p247; replace q247 := eq_true q247) | ((with_reducible refine gate_callee (f := 24) rfl ?_); refine goesL_ (some 50) rfl rfl Tryd.func24 (by kernel_rfl) rfl #[.string (rdOf ByteArray.empty y240 x34_1)] rfl (by (try simp only [List.map_toArray, List.map_cons, List.map_nil]); first | done | rfl | (simp only [List.length_drop, List.length_take]; rfl)) ?_; (with_reducible refine (railplanref1_Number.calls k1 (rdOf ByteArray.empty y240 x34_1) t248 t249 _ A19.out).mono ?_); rintro e w' ⟨rfl, ⟨nd, rfl⟩⟩; refine ⟨_, rfl, ?_⟩; have p250 : 0 ≤ (x34_1 : Int) := of_decide_eq_true (by first | (with_reducible assumption) | assumption); have q250 : x34_1 < (y240.length : Int) := of_decide_eq_true (by first | (with_reducible assumption) | assumption); obtain ⟨ad250, e250, hx250_0⟩ := Kd.at_string (Kd.R_reads' HO_6.out).2.2 x34_1 p250 q250; obtain rfl : ad244 = ad250 := (by injection e250); replace p250 := eq_true p250; replace q250 := eq_true q250) | ((with_reducible refine gate_callee (f := 15) rfl ?_); refine goesL_ (some 58) rfl rfl Tryd.func15 (by kernel_rfl) rfl #[.string (rdOf ByteArray.empty y240 x34_1)] rfl (by (try simp only [List.map_toArray, List.map_cons, List.map_nil]); first | done | rfl | (simp only [List.length_drop, List.length_take]; rfl)) ?_; (with_reducible refine (words_Range.calls (rdOf ByteArray.empty y240 x34_1) t251 t252 t253 _ ?side1 A20.out).mono ?_); (case side1 => exact ⟨hL_.out.below (by repeat (first | (with_reducible first | exact HB.out | apply below_alloc | apply pw_below_drewN | apply below_drew1) | exact HB.out))⟩); rintro e w28 ⟨rfl, hb⟩; refine ⟨_, rfl, ?_⟩; have n0_ := Aside0.mk (Kd.R_below (by (with_reducible repeat (first | apply Kd.R_alloc | apply Kd.R_drewN | apply Kd.R_drew)); exact HO_6.out) hb); have n1_ := Aside0.mk (below_step (by repeat (first | (with_reducible first | exact HB.out | apply below_alloc | apply pw_below_drewN | apply below_drew1) | exact HB.out)) hb); clear HO_6; clear HB; have HO_6 := n0_; have HB := n1_; clear n0_ n1_; (try clear hb); (try clear hb2); (try clear hk); (try clear hi); have p254 : 0 ≤ (x34_1 : Int) := of_decide_eq_true (by first | (with_reducible assumption) | assumption); have q254 : x34_1 < (y240.length : Int) := of_decide_eq_true (by first | (with_reducible assumption) | assumption); obtain ⟨ad254, e254, hx254_0⟩ := Kd.at_string (Kd.R_reads' HO_6.out).2.2 x34_1 p254 q254; obtain rfl : ad244 = ad254 := (by injection e254); replace p254 := eq_true p254; replace q254 := eq_true q254) | ((with_reducible refine gate_callee (f := 25) rfl ?_); refine goesL_ (some 67) rfl rfl Tryd.func25 (by kernel_rfl) rfl #[.string (rdOf ByteArray.empty y240 x34_1)] rfl (by (try simp only [List.map_toArray, List.map_cons, List.map_nil]); first | done | rfl | (simp only [List.length_drop, List.length_take]; rfl)) ?_; (with_reducible refine (railplanref1_Range.calls k1 (rdOf ByteArray.empty y240 x34_1) t255 t256 t257 _ A21.out).mono ?_); rintro e w' ⟨rfl, ⟨nd, rfl⟩⟩; refine ⟨_, rfl, ?_⟩))
                              go_roundg k1
                              case measure => have := HK1.out; omega
                              case rel => exact ⟨(wrap64 (x34_1 + 1)), (by first | rfl | (simp; done) | (simp [*]; done)), H', ⟨by have := HK1.out; omega⟩, ⟨by (with_reducible repeat (first | apply Kd.R_alloc | apply Kd.R_drewN | apply Kd.R_drew)); exact HO_6.out⟩, ⟨by repeat (first | (with_reducible first | exact HB.out | apply below_alloc | apply pw_below_drewN | apply below_drew1) | exact HB.out)⟩⟩
                          · rw [if_neg c25] at H
                            have c25b0 : (t252 == t256) = false := beq_eq_false_iff_ne.mpr c25
                            have c25b1 : (t252 != t256) = true := bne_iff_ne.mpr c25
                            obtain rfl := Option.some.inj H
                            exact absurd hr_.out (by decide)
                        · rw [if_neg c24] at H
                          have c24b0 : (t251 == t255) = false := beq_eq_false_iff_ne.mpr c24
                          have c24b1 : (t251 != t255) = true := bne_iff_ne.mpr c24
                          obtain rfl := Option.some.inj H
                          exact absurd hr_.out (by decide)
                    · rw [if_neg c22] at H
                      have c22b0 : (t245 == t248) = false := beq_eq_false_iff_ne.mpr c22
                      have c22b1 : (t245 != t248) = true := bne_iff_ne.mpr c22
                      obtain rfl := Option.some.inj H
                      exact absurd hr_.out (by decide)
                  · rw [if_neg c17] at H
                    exact absurd H (by simp)
                · rw [if_neg c16] at H
                  exact absurd H (by simp)
              · rw [if_neg c15] at H
                have c15b0 : decide (x34_1 < (y240.length : Int)) = false := decide_eq_false c15
                clear c15
                replace H := Option.bind_eq_some_iff.mp H
                obtain ⟨t243, A290, H⟩ := H
                replace H : (some t243) = some r := H
                have A29 := Aside0.mk A290
                clear A290
                obtain rfl := Option.some.inj H
                simp only [Option.some.injEq, Prod.mk.injEq] at H
                obtain ⟨rfl⟩ := H
                go_wp2_with (first | ((with_reducible refine gate_callee (f := 18) rfl ?_); refine goesL_ (some 95) rfl rfl Tryd.func18 (by kernel_rfl) rfl #[] rfl (by (try simp only [List.map_toArray, List.map_cons, List.map_nil]); first | done | rfl | (simp only [List.length_drop, List.length_take]; rfl)) ?_; (with_reducible refine (railplanlaw3_awake.calls k1  t243 _ ?side1 A29.out).mono ?_); (case side1 => exact ⟨hL_.out.below (by repeat (first | (with_reducible first | exact HB.out | apply below_alloc | apply pw_below_drewN | apply below_drew1) | exact HB.out))⟩); rintro e w30 ⟨rfl, hb⟩; refine ⟨_, rfl, ?_⟩; have n0_ := Aside0.mk (Kd.R_below (by (with_reducible repeat (first | apply Kd.R_alloc | apply Kd.R_drewN | apply Kd.R_drew)); exact HO_6.out) hb); have n1_ := Aside0.mk (below_step (by repeat (first | (with_reducible first | exact HB.out | apply below_alloc | apply pw_below_drewN | apply below_drew1) | exact HB.out)) hb); clear HO_6; clear HB; have HO_6 := n0_; have HB := n1_; clear n0_ n1_; (try clear hb); (try clear hb2); (try clear hk); (try clear hi)))
                go_ret
                exact ⟨by first | rfl | (simp [errW_none, errW_some] <;> rfl) | (simp only [← hji4, ← hji7]; first | rfl | (simp [errW_none, errW_some] <;> rfl)) | (simp [*, errW_none, errW_some] <;> rfl), by repeat (first | (with_reducible first | exact HB.out | apply below_alloc | apply pw_below_drewN | apply below_drew1) | exact HB.out)⟩
        · rw [if_neg c9] at H
          exact absurd H (by simp)
      · rw [if_neg c8] at H
        exact absurd H (by simp)
    · rw [if_neg c6] at H
      exact absurd H (by simp)
  · rw [if_neg c5] at H
    exact absurd H (by simp)

def railplanlaw3_WordsNumbers.Pure : Prop := ∀ (a0 : ByteArray) (l1 : List Int), (fun x : ByteArray => x.size ≤ 140737488351232) a0 → (fun xs : List Int => xs.length * 1 ≤ 140737488351232 ∧ xs.length ≤ maxLen ∧ ∀ x ∈ xs, (fun x : Int => (Lit.int .u8 x).wf = true) x) l1 → (fun x : ByteArray => x.size + 1) a0 + (fun xs : List Int => (xs.map (fun _ : Int => 1)).sum + 1) l1 ≤ 1048576 → ∃ k, railplanlaw3_WordsNumbers.f k a0 l1 = some true

end Go.Proofs.YtnmbljpifadipaaDoor.X
