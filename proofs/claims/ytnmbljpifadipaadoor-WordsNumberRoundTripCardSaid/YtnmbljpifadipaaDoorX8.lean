/- Written by a program of this claim. Proved: each Go function named below, called with any arguments at which its Lean function answers, returns that answer; or, of a law, its given statement. -/
import Derived.Test.YtnmbljpifadipaaDoorX0
namespace Go.Proofs.YtnmbljpifadipaaDoor.X
open Go.RowKit Go.Proofs.YtnmbljpifadipaaDoorW Go.Proofs.YtnmbljpifadipaaDoorW.PrintWords Go.Proofs.YtnmbljpifadipaaDoorW.PrintLast Go.Proofs.YtnmbljpifadipaaDoorW.PrintMore
attribute [local go_sem] max2_int min2_int max_two min_two max_three min_three max_four min_four   -- for this text's walks alone
set_option linter.unusedVariables false
set_option linter.unusedSimpArgs false

/-! ### railplanref1_Decimal: function 21 -/
mutual
def railplanref1_Decimal.j0 : Nat → Int → Bool → Option (ByteArray)
  | 0, _, _ => none
  | k + 1, x0, x11 => if x11 = true then (if 0 ≤ x0 then (if x0 ≤ (wrap64 (x0 + 1)) then (if (wrap64 (x0 + 1)) ≤ 10 then (some ((⟨#[48, 49, 50, 51, 52, 53, 54, 55, 56, 57]⟩ : ByteArray).extract (x0 : Int).toNat ((wrap64 (x0 + 1)) : Int).toNat)) else (none)) else (none)) else (none)) else (railplanref1_Decimal.l0 k x0 (⟨#[]⟩ : ByteArray) (decide (x0 < 0)))
def railplanref1_Decimal.l0 : Nat → Int → ByteArray → Bool → Option (ByteArray)
  | 0, _, _, _ => none
  | k + 1, x0, x3, x4 => if x0 = 0 then (if x4 = true then (if 1 + x3.size ≤ 9223372036854775807 then (some ((⟨#[45]⟩ : ByteArray) ++ x3)) else (none)) else (some x3)) else (if (Int.tmod x0 10) < 0 then (if 0 ≤ (wrap64 (-(Int.tmod x0 10))) then (if (wrap64 (-(Int.tmod x0 10))) ≤ (wrap64 ((wrap64 (-(Int.tmod x0 10))) + 1)) then (if (wrap64 ((wrap64 (-(Int.tmod x0 10))) + 1)) ≤ 10 then (if ((⟨#[48, 49, 50, 51, 52, 53, 54, 55, 56, 57]⟩ : ByteArray).extract ((wrap64 (-(Int.tmod x0 10))) : Int).toNat ((wrap64 ((wrap64 (-(Int.tmod x0 10))) + 1)) : Int).toNat).size + x3.size ≤ 9223372036854775807 then (railplanref1_Decimal.l0 k (wrap64 (Int.tdiv x0 10)) (((⟨#[48, 49, 50, 51, 52, 53, 54, 55, 56, 57]⟩ : ByteArray).extract ((wrap64 (-(Int.tmod x0 10))) : Int).toNat ((wrap64 ((wrap64 (-(Int.tmod x0 10))) + 1)) : Int).toNat) ++ x3) x4) else (none)) else (none)) else (none)) else (none)) else (if 0 ≤ (Int.tmod x0 10) then (if (Int.tmod x0 10) ≤ (wrap64 ((Int.tmod x0 10) + 1)) then (if (wrap64 ((Int.tmod x0 10) + 1)) ≤ 10 then (if ((⟨#[48, 49, 50, 51, 52, 53, 54, 55, 56, 57]⟩ : ByteArray).extract ((Int.tmod x0 10) : Int).toNat ((wrap64 ((Int.tmod x0 10) + 1)) : Int).toNat).size + x3.size ≤ 9223372036854775807 then (railplanref1_Decimal.l0 k (wrap64 (Int.tdiv x0 10)) (((⟨#[48, 49, 50, 51, 52, 53, 54, 55, 56, 57]⟩ : ByteArray).extract ((Int.tmod x0 10) : Int).toNat ((wrap64 ((Int.tmod x0 10) + 1)) : Int).toNat) ++ x3) x4) else (none)) else (none)) else (none)) else (none)))
end
def railplanref1_Decimal.f (k : Nat) (a0 : Int) : Option (ByteArray) := if a0 ≥ 0 then (railplanref1_Decimal.j0 k a0 (decide (a0 < 10))) else (railplanref1_Decimal.j0 k a0 false)
theorem railplanref1_Decimal.mono_l : ∀ k, (∀ y0 y1, LeO (railplanref1_Decimal.j0 k y0 y1) (railplanref1_Decimal.j0 (k + 1) y0 y1)) ∧ (∀ y0 y1 y2, LeO (railplanref1_Decimal.l0 k y0 y1 y2) (railplanref1_Decimal.l0 (k + 1) y0 y1 y2))
  | 0 => ⟨fun _ _ r h => by simp [railplanref1_Decimal.j0] at h, fun _ _ _ r h => by simp [railplanref1_Decimal.l0] at h⟩
  | k + 1 => by
    obtain ⟨ih0, ih1⟩ := railplanref1_Decimal.mono_l k
    refine ⟨?_, ?_⟩
    · intro y0 y1
      unfold railplanref1_Decimal.j0
      repeat' first
      | (with_reducible exact ih0 _ _)
      | (with_reducible exact ih1 _ _ _)
      | (with_reducible exact LeO.refl _)
      | (with_reducible exact LeO.none _)
      | (with_reducible refine LeO.ite ?_ ?_)
      | (with_reducible refine LeO.bind ?_ (fun _ => ?_))
      | exact ih0 _ _
      | exact ih1 _ _ _
      | exact LeO.none _
      | refine LeO.ite ?_ ?_
      | refine LeO.bind ?_ (fun _ => ?_)
    · intro y0 y1 y2
      unfold railplanref1_Decimal.l0
      repeat' first
      | (with_reducible exact ih0 _ _)
      | (with_reducible exact ih1 _ _ _)
      | (with_reducible exact LeO.refl _)
      | (with_reducible exact LeO.none _)
      | (with_reducible refine LeO.ite ?_ ?_)
      | (with_reducible refine LeO.bind ?_ (fun _ => ?_))
      | exact ih0 _ _
      | exact ih1 _ _ _
      | exact LeO.none _
      | refine LeO.ite ?_ ?_
      | refine LeO.bind ?_ (fun _ => ?_)
theorem railplanref1_Decimal.mono : ∀ a0 k, LeO (railplanref1_Decimal.f k a0) (railplanref1_Decimal.f (k + 1) a0) := by
  intro a0 k
  obtain ⟨ih0, ih1⟩ := railplanref1_Decimal.mono_l k
  unfold railplanref1_Decimal.f
  repeat' first
      | (with_reducible exact ih0 _ _)
      | (with_reducible exact ih1 _ _ _)
      | (with_reducible exact LeO.refl _)
      | (with_reducible exact LeO.none _)
      | (with_reducible refine LeO.ite ?_ ?_)
      | (with_reducible refine LeO.bind ?_ (fun _ => ?_))
      | exact ih0 _ _
      | exact ih1 _ _ _
      | exact LeO.none _
      | refine LeO.ite ?_ ?_
      | refine LeO.bind ?_ (fun _ => ?_)
set_option maxHeartbeats 8000000 in
set_option maxRecDepth 100000 in
theorem railplanref1_Decimal.calls (k : Nat) (a0 : Int) (r : ByteArray) (w : World) (h : railplanref1_Decimal.f k a0 = some r) :
    Calls Tryd.prog 21 #[.int .i64 a0] w fun e w' => e = .returned (.string r) ∧ Drawn0 w w' := by
  have H : (if a0 ≥ 0 then (railplanref1_Decimal.j0 k a0 (decide (a0 < 10))) else (railplanref1_Decimal.j0 k a0 false)) = some r := h
  clear h
  have HC2 := Aside0.mk H
  clear H
  go_enter Tryd.func21, Tryd.ntmps21
  go_upto_region 1 with (fail)
  go_cut [11] (fun v11 wc => ∃ (kq : Nat) (x11_1 : Bool), v11 = .bool x11_1 ∧ Aside0 (railplanref1_Decimal.j0 kq a0 x11_1 = some r) ∧ Aside0 (kq ≤ k) ∧ Drawn0 w wc)
  case first =>
    have H := HC2.out
    clear HC2
    by_cases c3 : a0 ≥ 0
    · rw [if_pos c3] at H
      have c3b0 : decide (0 ≤ a0) = true := decide_eq_true c3
      clear c3
      (first | rw [c3b0] | (simp only [i64_w, i32_w]; rw [c3b0]) | rw [c3b1] | skip)
      have H' := Aside0.mk H
      clear H
      go_wp2
      go_meet
      case rel => exact ⟨_, (decide (a0 < 10)), (by first | rfl | (simp; done) | (simp [*]; done)), H', ⟨by first | omega | exact Nat.le_refl _⟩, by repeat (first | exact Drawn0.refl _ | apply Drawn0.step)⟩
    · rw [if_neg c3] at H
      have c3b0 : decide (0 ≤ a0) = false := decide_eq_false c3
      clear c3
      (first | rw [c3b0] | (simp only [i64_w, i32_w]; rw [c3b0]) | rw [c3b1] | skip)
      have H' := Aside0.mk H
      clear H
      go_wp2
      go_meet
      case rel => exact ⟨_, (false), (by first | rfl | (simp; done) | (simp [*]; done)), H', ⟨by first | omega | exact Nat.le_refl _⟩, by repeat (first | exact Drawn0.refl _ | apply Drawn0.step)⟩
  case rest =>
    clear HC2
    try clear c2
    try clear p2
    try clear c3
    try clear c3b0
    try clear c3b1
    obtain ⟨kq, x11_1, rfl, HA, HJ1, ⟨mc1, rfl⟩⟩ := hcut
    cases kq with
    | zero => exact absurd HA.out (by simp [railplanref1_Decimal.j0])
    | succ kj1 =>
      have H := HA.out
      clear HA
      simp only [railplanref1_Decimal.j0] at H
      by_cases c4 : x11_1 = true
      · subst c4
        have H1 : (if 0 ≤ a0 then (if a0 ≤ (wrap64 (a0 + 1)) then (if (wrap64 (a0 + 1)) ≤ 10 then (some ((⟨#[48, 49, 50, 51, 52, 53, 54, 55, 56, 57]⟩ : ByteArray).extract (a0 : Int).toNat ((wrap64 (a0 + 1)) : Int).toNat)) else (none)) else (none)) else (none)) = some r := by rw [if_pos rfl] at H; exact H
        clear H
        have H := H1
        clear H1
        by_cases c5 : 0 ≤ a0
        · rw [if_pos c5] at H
          have c5b0 := eq_true c5
          have c5b1 : decide (0 ≤ a0) = true := decide_eq_true c5
          clear c5
          by_cases c6 : a0 ≤ (wrap64 (a0 + 1))
          · rw [if_pos c6] at H
            have c6b0 := eq_true c6
            have c6b1 : decide (a0 ≤ (wrap64 (a0 + 1))) = true := decide_eq_true c6
            by_cases c7 : (wrap64 (a0 + 1)) ≤ 10
            · rw [if_pos c7] at H
              have c7b0 := eq_true c7
              have c7b1 : decide ((wrap64 (a0 + 1)) ≤ 10) = true := decide_eq_true c7
              obtain rfl := Option.some.inj H
              simp only [Option.some.injEq, Prod.mk.injEq] at H
              obtain ⟨rfl⟩ := H
              go_wp2
              go_ret
              exact ⟨by first | rfl | (simp; done) | (simp [*]; done), by repeat (first | exact Drawn0.refl _ | apply Drawn0.step)⟩
            · rw [if_neg c7] at H
              exact absurd H (by simp)
          · rw [if_neg c6] at H
            exact absurd H (by simp)
        · rw [if_neg c5] at H
          exact absurd H (by simp)
      · replace c4 := Bool.eq_false_iff.mpr c4
        subst c4
        have H1 : (railplanref1_Decimal.l0 kj1 a0 (⟨#[]⟩ : ByteArray) (decide (a0 < 0))) = some r := by rw [if_neg (show ¬ (false = true) by decide)] at H; exact H
        clear H
        have H := H1
        clear H1
        have H' := Aside0.mk H
        clear H
        go_wp2
        go_loopg [0, 3] kj1 (fun kq v0 v3 w' => ∃ (x0_2 : Int) (x3_2 : ByteArray), v0 = .int .i64 x0_2 ∧ v3 = .string x3_2 ∧ Aside0 (railplanref1_Decimal.l0 kq x0_2 x3_2 (decide (a0 < 0)) = some r) ∧ Aside0 (kq ≤ kj1) ∧ Drawn0 w w')
        case atStart => exact ⟨(a0), ((⟨#[]⟩ : ByteArray)), (by first | rfl | (simp; done) | (simp [*]; done)), (by first | rfl | (simp; done) | (simp [*]; done)), H', ⟨Nat.le_refl _⟩, by repeat (first | exact Drawn0.refl _ | apply Drawn0.step)⟩
        case round =>
          clear H'
          try clear c1
          try clear c2
          try clear p2
          try clear c3
          try clear c3b0
          try clear c3b1
          try clear c4
          try clear c5
          try clear c5b0
          try clear c5b1
          try clear c6
          try clear c6b0
          try clear c6b1
          try clear p6
          try clear c7
          try clear c7b0
          try clear c7b1
          try clear p2
          obtain ⟨x0_2, x3_2, rfl, rfl, HA, HK2, ⟨m2, rfl⟩⟩ := hrel
          cases gk with
          | zero => exact absurd HA.out (by simp [railplanref1_Decimal.l0])
          | succ k2 =>
            have H := HA.out
            clear HA
            simp only [railplanref1_Decimal.l0] at H
            by_cases c8 : x0_2 = 0
            · rw [if_pos c8] at H
              have c8b0 : (x0_2 == 0) = true := beq_iff_eq.mpr c8
              have c8b1 : (x0_2 != 0) = false := bne_eq_false_iff_eq.mpr c8
              clear c8
              by_cases c9 : (decide (a0 < 0)) = true
              · rw [if_pos c9] at H
                have c9b0 : (decide (a0 < 0)) = true := c9
                (try (have c9b1 : (a0 < 0) = True := eq_true (by simpa using c9)))
                clear c9
                by_cases c10 : 1 + x3_2.size ≤ 9223372036854775807
                · rw [if_pos c10] at H
                  have c10b0 := eq_true c10
                  have c10b1 : decide (1 + x3_2.size ≤ 9223372036854775807) = true := decide_eq_true c10
                  try have c10b2 : (9223372036854775807 < 1 + x3_2.size) = False := eq_false (Nat.not_lt.2 c10)
                  obtain rfl := Option.some.inj H
                  simp only [Option.some.injEq, Prod.mk.injEq] at H
                  obtain ⟨rfl⟩ := H
                  go_wp2
                  all_goals (try (exfalso; have q_ := of_eq_true c9b1; omega))
                  all_goals (try (exfalso; have q_ := of_eq_true c9b1; omega))
                  go_ret
                  exact ⟨by first | rfl | (simp; done) | (simp [*]; done), by repeat (first | exact Drawn0.refl _ | apply Drawn0.step)⟩
                · rw [if_neg c10] at H
                  exact absurd H (by simp)
              · rw [if_neg c9] at H
                have c9b0 : (decide (a0 < 0)) = false := by simpa using c9
                (try (have c9b1 : (a0 < 0) = False := eq_false (by simpa using c9)))
                clear c9
                obtain rfl := Option.some.inj H
                simp only [Option.some.injEq, Prod.mk.injEq] at H
                obtain ⟨rfl⟩ := H
                go_wp2
                all_goals (try (exfalso; have q_ := of_eq_false c9b1; omega))
                all_goals (try (exfalso; have q_ := of_eq_false c9b1; omega))
                go_ret
                exact ⟨by first | rfl | (simp; done) | (simp [*]; done), by repeat (first | exact Drawn0.refl _ | apply Drawn0.step)⟩
            · rw [if_neg c8] at H
              have c8b0 : (x0_2 == 0) = false := beq_eq_false_iff_ne.mpr c8
              have c8b1 : (x0_2 != 0) = true := bne_iff_ne.mpr c8
              by_cases c11 : (Int.tmod x0_2 10) < 0
              · rw [if_pos c11] at H
                have c11b0 : decide ((Int.tmod x0_2 10) < 0) = true := decide_eq_true c11
                clear c11
                obtain ⟨ji12, hji12⟩ : ∃ j_ : Int, (wrap64 (-(Int.tmod x0_2 10))) = j_ := ⟨_, rfl⟩
                replace H : (if 0 ≤ (ji12) then (if (ji12) ≤ (wrap64 ((ji12) + 1)) then (if (wrap64 ((ji12) + 1)) ≤ 10 then (if ((⟨#[48, 49, 50, 51, 52, 53, 54, 55, 56, 57]⟩ : ByteArray).extract ((ji12) : Int).toNat ((wrap64 ((ji12) + 1)) : Int).toNat).size + x3_2.size ≤ 9223372036854775807 then (railplanref1_Decimal.l0 k2 (wrap64 (Int.tdiv x0_2 10)) (((⟨#[48, 49, 50, 51, 52, 53, 54, 55, 56, 57]⟩ : ByteArray).extract ((ji12) : Int).toNat ((wrap64 ((ji12) + 1)) : Int).toNat) ++ x3_2) (decide (a0 < 0))) else (none)) else (none)) else (none)) else (none)) = some r := by first | (rw [hji12] at H; exact H) | (simp only [hji12] at H ⊢; exact H)
                have hji12w : (IntKind.i64.wrap (-(Int.tmod x0_2 10))) = ji12 := (i64_w _).trans hji12
                by_cases c13 : 0 ≤ (ji12)
                · rw [if_pos c13] at H
                  have c13b0 := eq_true c13
                  have c13b1 : decide (0 ≤ (ji12)) = true := decide_eq_true c13
                  clear c13
                  by_cases c14 : (ji12) ≤ (wrap64 ((ji12) + 1))
                  · rw [if_pos c14] at H
                    have c14b0 := eq_true c14
                    have c14b1 : decide ((ji12) ≤ (wrap64 ((ji12) + 1))) = true := decide_eq_true c14
                    by_cases c15 : (wrap64 ((ji12) + 1)) ≤ 10
                    · rw [if_pos c15] at H
                      have c15b0 := eq_true c15
                      have c15b1 : decide ((wrap64 ((ji12) + 1)) ≤ 10) = true := decide_eq_true c15
                      by_cases c16 : ((⟨#[48, 49, 50, 51, 52, 53, 54, 55, 56, 57]⟩ : ByteArray).extract ((ji12) : Int).toNat ((wrap64 ((ji12) + 1)) : Int).toNat).size + x3_2.size ≤ 9223372036854775807
                      · rw [if_pos c16] at H
                        have c16b0 := eq_true c16
                        have c16b1 : decide (((⟨#[48, 49, 50, 51, 52, 53, 54, 55, 56, 57]⟩ : ByteArray).extract ((ji12) : Int).toNat ((wrap64 ((ji12) + 1)) : Int).toNat).size + x3_2.size ≤ 9223372036854775807) = true := decide_eq_true c16
                        try have c16b2 : (9223372036854775807 < ((⟨#[48, 49, 50, 51, 52, 53, 54, 55, 56, 57]⟩ : ByteArray).extract ((ji12) : Int).toNat ((wrap64 ((ji12) + 1)) : Int).toNat).size + x3_2.size) = False := eq_false (Nat.not_lt.2 c16)
                        have H' := Aside0.mk H
                        clear H
                        go_wp2
                        go_roundg k2
                        case measure => have := HJ1.out; have := HK2.out; omega
                        case rel => exact ⟨(wrap64 (Int.tdiv x0_2 10)), (((⟨#[48, 49, 50, 51, 52, 53, 54, 55, 56, 57]⟩ : ByteArray).extract ((ji12) : Int).toNat ((wrap64 ((ji12) + 1)) : Int).toNat) ++ x3_2), (by first | rfl | (simp; done) | (simp [*]; done)), (by first | rfl | (simp; done) | (simp only [← hji12] <;> (first | rfl | simp)) | (simp [*]; done)), H', ⟨by have := HJ1.out; have := HK2.out; omega⟩, by repeat (first | exact Drawn0.refl _ | apply Drawn0.step)⟩
                      · rw [if_neg c16] at H
                        exact absurd H (by simp)
                    · rw [if_neg c15] at H
                      exact absurd H (by simp)
                  · rw [if_neg c14] at H
                    exact absurd H (by simp)
                · rw [if_neg c13] at H
                  exact absurd H (by simp)
              · rw [if_neg c11] at H
                have c11b0 : decide ((Int.tmod x0_2 10) < 0) = false := decide_eq_false c11
                clear c11
                obtain ⟨ji17, hji17⟩ : ∃ j_ : Int, (Int.tmod x0_2 10) = j_ := ⟨_, rfl⟩
                replace H : (if 0 ≤ (ji17) then (if (ji17) ≤ (wrap64 ((ji17) + 1)) then (if (wrap64 ((ji17) + 1)) ≤ 10 then (if ((⟨#[48, 49, 50, 51, 52, 53, 54, 55, 56, 57]⟩ : ByteArray).extract ((ji17) : Int).toNat ((wrap64 ((ji17) + 1)) : Int).toNat).size + x3_2.size ≤ 9223372036854775807 then (railplanref1_Decimal.l0 k2 (wrap64 (Int.tdiv x0_2 10)) (((⟨#[48, 49, 50, 51, 52, 53, 54, 55, 56, 57]⟩ : ByteArray).extract ((ji17) : Int).toNat ((wrap64 ((ji17) + 1)) : Int).toNat) ++ x3_2) (decide (a0 < 0))) else (none)) else (none)) else (none)) else (none)) = some r := by first | (rw [hji17] at H; exact H) | (simp only [hji17] at H ⊢; exact H)
                (try rw [hji17] at c11b0)
                by_cases c18 : 0 ≤ (ji17)
                · rw [if_pos c18] at H
                  have c18b0 := eq_true c18
                  have c18b1 : decide (0 ≤ (ji17)) = true := decide_eq_true c18
                  clear c18
                  by_cases c19 : (ji17) ≤ (wrap64 ((ji17) + 1))
                  · rw [if_pos c19] at H
                    have c19b0 := eq_true c19
                    have c19b1 : decide ((ji17) ≤ (wrap64 ((ji17) + 1))) = true := decide_eq_true c19
                    by_cases c20 : (wrap64 ((ji17) + 1)) ≤ 10
                    · rw [if_pos c20] at H
                      have c20b0 := eq_true c20
                      have c20b1 : decide ((wrap64 ((ji17) + 1)) ≤ 10) = true := decide_eq_true c20
                      by_cases c21 : ((⟨#[48, 49, 50, 51, 52, 53, 54, 55, 56, 57]⟩ : ByteArray).extract ((ji17) : Int).toNat ((wrap64 ((ji17) + 1)) : Int).toNat).size + x3_2.size ≤ 9223372036854775807
                      · rw [if_pos c21] at H
                        have c21b0 := eq_true c21
                        have c21b1 : decide (((⟨#[48, 49, 50, 51, 52, 53, 54, 55, 56, 57]⟩ : ByteArray).extract ((ji17) : Int).toNat ((wrap64 ((ji17) + 1)) : Int).toNat).size + x3_2.size ≤ 9223372036854775807) = true := decide_eq_true c21
                        try have c21b2 : (9223372036854775807 < ((⟨#[48, 49, 50, 51, 52, 53, 54, 55, 56, 57]⟩ : ByteArray).extract ((ji17) : Int).toNat ((wrap64 ((ji17) + 1)) : Int).toNat).size + x3_2.size) = False := eq_false (Nat.not_lt.2 c21)
                        have H' := Aside0.mk H
                        clear H
                        go_wp2
                        go_roundg k2
                        case measure => have := HJ1.out; have := HK2.out; omega
                        case rel => exact ⟨(wrap64 (Int.tdiv x0_2 10)), (((⟨#[48, 49, 50, 51, 52, 53, 54, 55, 56, 57]⟩ : ByteArray).extract ((ji17) : Int).toNat ((wrap64 ((ji17) + 1)) : Int).toNat) ++ x3_2), (by first | rfl | (simp; done) | (simp [*]; done)), (by first | rfl | (simp; done) | (simp only [← hji17] <;> (first | rfl | simp)) | (simp [*]; done)), H', ⟨by have := HJ1.out; have := HK2.out; omega⟩, by repeat (first | exact Drawn0.refl _ | apply Drawn0.step)⟩
                      · rw [if_neg c21] at H
                        exact absurd H (by simp)
                    · rw [if_neg c20] at H
                      exact absurd H (by simp)
                  · rw [if_neg c19] at H
                    exact absurd H (by simp)
                · rw [if_neg c18] at H
                  exact absurd H (by simp)

end Go.Proofs.YtnmbljpifadipaaDoor.X
