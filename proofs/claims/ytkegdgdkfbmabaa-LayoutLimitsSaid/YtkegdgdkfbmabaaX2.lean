/- Written by a program of this claim. Proved: each Go function named below, called with any arguments at which its Lean function answers, returns that answer; or, of a law, its given statement. -/
import Derived.Test.YtkegdgdkfbmabaaX0
import Derived.Test.YtkegdgdkfbmabaaX1
import Derived.Test.YtkegdgdkfbmabaaQCheck
namespace Go.Proofs.Ytkegdgdkfbmabaa.X
open Go.RowKit Go.Proofs.YtkegdgdkfbmabaaW.PrintWords Go.Proofs.YtkegdgdkfbmabaaW.PrintLast Go.Proofs.YtkegdgdkfbmabaaW.PrintMore
attribute [local go_sem] max2_int min2_int max_two min_two max_three min_three max_four min_four   -- for this text's walks alone
set_option linter.unusedVariables false
set_option linter.unusedSimpArgs false

/-! ### railplankeep_Pick: function 6 -/
def railplankeep_Pick.f (a0 : Int) (a1 : Int) : Option (Int) := if (IntKind.u64.wrap (a1)) = 0 then (none) else (some (wrap64 (Int.tmod (IntKind.u64.wrap (a0)) (IntKind.u64.wrap (a1)))))
set_option maxHeartbeats 8000000 in
set_option maxRecDepth 100000 in
theorem railplankeep_Pick.calls (a0 : Int) (a1 : Int) (r : Int) (w : World) (h : railplankeep_Pick.f a0 a1 = some r) :
    Calls Try.prog 6 #[.int .i64 a0, .int .i64 a1] w fun e w' => e = .returned (.int .i64 r) ∧ Drawn0 w w' := by
  have H : (if (IntKind.u64.wrap (a1)) = 0 then (none) else (some (wrap64 (Int.tmod (IntKind.u64.wrap (a0)) (IntKind.u64.wrap (a1)))))) = some r := h
  clear h
  by_cases c3 : (IntKind.u64.wrap (a1)) = 0
  · rw [if_pos c3] at H
    exact absurd H (by simp)
  · rw [if_neg c3] at H
    have c3b0 : ((IntKind.u64.wrap (a1)) == 0) = false := beq_eq_false_iff_ne.mpr c3
    have c3b1 : ((IntKind.u64.wrap (a1)) != 0) = true := bne_iff_ne.mpr c3
    obtain rfl := Option.some.inj H
    simp only [Option.some.injEq, Prod.mk.injEq] at H
    obtain ⟨rfl⟩ := H
    go_enter Try.func6, Try.ntmps6
    go_wp2
    go_ret
    exact ⟨by first | rfl | (simp; done) | (simp [*]; done), by repeat (first | exact Drawn0.refl _ | apply Drawn0.step)⟩

/-! ### railplanref1_Decimal: function 7 -/
mutual
def railplanref1_Decimal.j0 : Nat → Int → Bool → Option (ByteArray)
  | 0, _, _ => none
  | k + 1, x0, x11 => if x11 = true then (if 0 ≤ x0 then (if x0 ≤ (wrap64 (x0 + 1)) then (if (wrap64 (x0 + 1)) ≤ 10 then (some ((⟨#[48, 49, 50, 51, 52, 53, 54, 55, 56, 57]⟩ : ByteArray).extract (x0 : Int).toNat ((wrap64 (x0 + 1)) : Int).toNat)) else (none)) else (none)) else (none)) else (railplanref1_Decimal.l0 k x0 (⟨#[]⟩ : ByteArray) (decide (x0 < 0)))
def railplanref1_Decimal.l0 : Nat → Int → ByteArray → Bool → Option (ByteArray)
  | 0, _, _, _ => none
  | k + 1, x0, x3, x4 => if x0 = 0 then (if x4 = true then (if 1 + x3.size ≤ 9223372036854775807 then (some ((⟨#[45]⟩ : ByteArray) ++ x3)) else (none)) else (some x3)) else (if (Int.tmod x0 10) < 0 then (if 0 ≤ (wrap64 (-(Int.tmod x0 10))) then (if (wrap64 (-(Int.tmod x0 10))) ≤ (wrap64 ((wrap64 (-(Int.tmod x0 10))) + 1)) then (if (wrap64 ((wrap64 (-(Int.tmod x0 10))) + 1)) ≤ 10 then (if ((⟨#[48, 49, 50, 51, 52, 53, 54, 55, 56, 57]⟩ : ByteArray).extract ((wrap64 (-(Int.tmod x0 10))) : Int).toNat ((wrap64 ((wrap64 (-(Int.tmod x0 10))) + 1)) : Int).toNat).size + x3.size ≤ 9223372036854775807 then (railplanref1_Decimal.l0 k (wrap64 (Int.tdiv x0 10)) (((⟨#[48, 49, 50, 51, 52, 53, 54, 55, 56, 57]⟩ : ByteArray).extract ((wrap64 (-(Int.tmod x0 10))) : Int).toNat ((wrap64 ((wrap64 (-(Int.tmod x0 10))) + 1)) : Int).toNat) ++ x3) x4) else (none)) else (none)) else (none)) else (none)) else (if 0 ≤ (Int.tmod x0 10) then (if (Int.tmod x0 10) ≤ (wrap64 ((Int.tmod x0 10) + 1)) then (if (wrap64 ((Int.tmod x0 10) + 1)) ≤ 10 then (if ((⟨#[48, 49, 50, 51, 52, 53, 54, 55, 56, 57]⟩ : ByteArray).extract ((Int.tmod x0 10) : Int).toNat ((wrap64 ((Int.tmod x0 10) + 1)) : Int).toNat).size + x3.size ≤ 9223372036854775807 then (railplanref1_Decimal.l0 k (wrap64 (Int.tdiv x0 10)) (((⟨#[48, 49, 50, 51, 52, 53, 54, 55, 56, 57]⟩ : ByteArray).extract ((Int.tmod x0 10) : Int).toNat ((wrap64 ((Int.tmod x0 10) + 1)) : Int).toNat) ++ x3) x4) else (none)) else (none)) else (none)) else (none)))
end
def railplanref1_Decimal.f (k : Nat) (a0 : Int) : Option (ByteArray) := if a0 ≥ 0 then (railplanref1_Decimal.j0 k a0 (decide (a0 < 10))) else (railplanref1_Decimal.j0 k a0 false)
theorem railplanref1_Decimal.mono_l : ∀ k, (∀ y0 y1, LeO (railplanref1_Decimal.j0 k y0 y1) (railplanref1_Decimal.j0 (k + 1) y0 y1)) ∧ (∀ y0 y1 y2, LeO (railplanref1_Decimal.l0 k y0 y1 y2) (railplanref1_Decimal.l0 (k + 1) y0 y1 y2))
  | 0 => ⟨fun _ _ r h => by simp [railplanref1_Decimal.j0] at h, fun _ _ _ r h => by simp [railplanref1_Decimal.l0] at h⟩
  | k + 1 => by
    obtain ⟨ih0, ih1⟩ := railplanref1_Decimal.mono_l k
    refine ⟨?_, ?_⟩
    · intro y0 y1
      unfold railplanref1_Decimal.j0
      repeat' first
      | (with_reducible exact ih0 _ _)
      | (with_reducible exact ih1 _ _ _)
      | (with_reducible exact LeO.refl _)
      | (with_reducible exact LeO.none _)
      | (with_reducible refine LeO.ite ?_ ?_)
      | (with_reducible refine LeO.bind ?_ (fun _ => ?_))
      | exact ih0 _ _
      | exact ih1 _ _ _
      | exact LeO.none _
      | refine LeO.ite ?_ ?_
      | refine LeO.bind ?_ (fun _ => ?_)
    · intro y0 y1 y2
      unfold railplanref1_Decimal.l0
      repeat' first
      | (with_reducible exact ih0 _ _)
      | (with_reducible exact ih1 _ _ _)
      | (with_reducible exact LeO.refl _)
      | (with_reducible exact LeO.none _)
      | (with_reducible refine LeO.ite ?_ ?_)
      | (with_reducible refine LeO.bind ?_ (fun _ => ?_))
      | exact ih0 _ _
      | exact ih1 _ _ _
      | exact LeO.none _
      | refine LeO.ite ?_ ?_
      | refine LeO.bind ?_ (fun _ => ?_)
theorem railplanref1_Decimal.mono : ∀ a0 k, LeO (railplanref1_Decimal.f k a0) (railplanref1_Decimal.f (k + 1) a0) := by
  intro a0 k
  obtain ⟨ih0, ih1⟩ := railplanref1_Decimal.mono_l k
  unfold railplanref1_Decimal.f
  repeat' first
      | (with_reducible exact ih0 _ _)
      | (with_reducible exact ih1 _ _ _)
      | (with_reducible exact LeO.refl _)
      | (with_reducible exact LeO.none _)
      | (with_reducible refine LeO.ite ?_ ?_)
      | (with_reducible refine LeO.bind ?_ (fun _ => ?_))
      | exact ih0 _ _
      | exact ih1 _ _ _
      | exact LeO.none _
      | refine LeO.ite ?_ ?_
      | refine LeO.bind ?_ (fun _ => ?_)
set_option maxHeartbeats 8000000 in
set_option maxRecDepth 100000 in
theorem railplanref1_Decimal.calls (k : Nat) (a0 : Int) (r : ByteArray) (w : World) (h : railplanref1_Decimal.f k a0 = some r) :
    Calls Try.prog 7 #[.int .i64 a0] w fun e w' => e = .returned (.string r) ∧ Drawn0 w w' := by
  have H : (if a0 ≥ 0 then (railplanref1_Decimal.j0 k a0 (decide (a0 < 10))) else (railplanref1_Decimal.j0 k a0 false)) = some r := h
  clear h
  have HC2 := Aside0.mk H
  clear H
  go_enter Try.func7, Try.ntmps7
  go_upto_region 1 with (fail)
  go_cut [11] (fun v11 wc => ∃ (kq : Nat) (x11_1 : Bool), v11 = .bool x11_1 ∧ Aside0 (railplanref1_Decimal.j0 kq a0 x11_1 = some r) ∧ Aside0 (kq ≤ k) ∧ Drawn0 w wc)
  case first =>
    have H := HC2.out
    clear HC2
    by_cases c3 : a0 ≥ 0
    · rw [if_pos c3] at H
      have c3b0 : decide (0 ≤ a0) = true := decide_eq_true c3
      clear c3
      (first | rw [c3b0] | (simp only [i64_w, i32_w]; rw [c3b0]) | rw [c3b1] | skip)
      have H' := Aside0.mk H
      clear H
      go_wp2
      go_meet
      case rel => exact ⟨_, (decide (a0 < 10)), (by first | rfl | (simp; done) | (simp [*]; done)), H', ⟨by first | omega | exact Nat.le_refl _⟩, by repeat (first | exact Drawn0.refl _ | apply Drawn0.step)⟩
    · rw [if_neg c3] at H
      have c3b0 : decide (0 ≤ a0) = false := decide_eq_false c3
      clear c3
      (first | rw [c3b0] | (simp only [i64_w, i32_w]; rw [c3b0]) | rw [c3b1] | skip)
      have H' := Aside0.mk H
      clear H
      go_wp2
      go_meet
      case rel => exact ⟨_, (false), (by first | rfl | (simp; done) | (simp [*]; done)), H', ⟨by first | omega | exact Nat.le_refl _⟩, by repeat (first | exact Drawn0.refl _ | apply Drawn0.step)⟩
  case rest =>
    clear HC2
    try clear p2
    try clear c3
    try clear c3b0
    try clear c3b1
    obtain ⟨kq, x11_1, rfl, HA, HJ1, ⟨mc1, rfl⟩⟩ := hcut
    cases kq with
    | zero => exact absurd HA.out (by simp [railplanref1_Decimal.j0])
    | succ kj1 =>
      have H := HA.out
      clear HA
      simp only [railplanref1_Decimal.j0] at H
      by_cases c4 : x11_1 = true
      · subst c4
        have H1 : (if 0 ≤ a0 then (if a0 ≤ (wrap64 (a0 + 1)) then (if (wrap64 (a0 + 1)) ≤ 10 then (some ((⟨#[48, 49, 50, 51, 52, 53, 54, 55, 56, 57]⟩ : ByteArray).extract (a0 : Int).toNat ((wrap64 (a0 + 1)) : Int).toNat)) else (none)) else (none)) else (none)) = some r := by rw [if_pos rfl] at H; exact H
        clear H
        have H := H1
        clear H1
        by_cases c5 : 0 ≤ a0
        · rw [if_pos c5] at H
          have c5b0 := eq_true c5
          have c5b1 : decide (0 ≤ a0) = true := decide_eq_true c5
          clear c5
          by_cases c6 : a0 ≤ (wrap64 (a0 + 1))
          · rw [if_pos c6] at H
            have c6b0 := eq_true c6
            have c6b1 : decide (a0 ≤ (wrap64 (a0 + 1))) = true := decide_eq_true c6
            by_cases c7 : (wrap64 (a0 + 1)) ≤ 10
            · rw [if_pos c7] at H
              have c7b0 := eq_true c7
              have c7b1 : decide ((wrap64 (a0 + 1)) ≤ 10) = true := decide_eq_true c7
              obtain rfl := Option.some.inj H
              simp only [Option.some.injEq, Prod.mk.injEq] at H
              obtain ⟨rfl⟩ := H
              go_wp2
              go_ret
              exact ⟨by first | rfl | (simp; done) | (simp [*]; done), by repeat (first | exact Drawn0.refl _ | apply Drawn0.step)⟩
            · rw [if_neg c7] at H
              exact absurd H (by simp)
          · rw [if_neg c6] at H
            exact absurd H (by simp)
        · rw [if_neg c5] at H
          exact absurd H (by simp)
      · replace c4 := Bool.eq_false_iff.mpr c4
        subst c4
        have H1 : (railplanref1_Decimal.l0 kj1 a0 (⟨#[]⟩ : ByteArray) (decide (a0 < 0))) = some r := by rw [if_neg (show ¬ (false = true) by decide)] at H; exact H
        clear H
        have H := H1
        clear H1
        have H' := Aside0.mk H
        clear H
        go_wp2
        go_loopg [0, 3] kj1 (fun kq v0 v3 w' => ∃ (x0_2 : Int) (x3_2 : ByteArray), v0 = .int .i64 x0_2 ∧ v3 = .string x3_2 ∧ Aside0 (railplanref1_Decimal.l0 kq x0_2 x3_2 (decide (a0 < 0)) = some r) ∧ Aside0 (kq ≤ kj1) ∧ Drawn0 w w')
        case atStart => exact ⟨(a0), ((⟨#[]⟩ : ByteArray)), (by first | rfl | (simp; done) | (simp [*]; done)), (by first | rfl | (simp; done) | (simp [*]; done)), H', ⟨Nat.le_refl _⟩, by repeat (first | exact Drawn0.refl _ | apply Drawn0.step)⟩
        case round =>
          clear H'
          try clear c1
          try clear p2
          try clear c3
          try clear c3b0
          try clear c3b1
          try clear c4
          try clear c5
          try clear c5b0
          try clear c5b1
          try clear c6
          try clear c6b0
          try clear c6b1
          try clear p6
          try clear c7
          try clear c7b0
          try clear c7b1
          try clear p2
          obtain ⟨x0_2, x3_2, rfl, rfl, HA, HK2, ⟨m2, rfl⟩⟩ := hrel
          cases gk with
          | zero => exact absurd HA.out (by simp [railplanref1_Decimal.l0])
          | succ k2 =>
            have H := HA.out
            clear HA
            simp only [railplanref1_Decimal.l0] at H
            by_cases c8 : x0_2 = 0
            · rw [if_pos c8] at H
              have c8b0 : (x0_2 == 0) = true := beq_iff_eq.mpr c8
              have c8b1 : (x0_2 != 0) = false := bne_eq_false_iff_eq.mpr c8
              clear c8
              by_cases c9 : (decide (a0 < 0)) = true
              · rw [if_pos c9] at H
                have c9b0 : (decide (a0 < 0)) = true := c9
                (try (have c9b1 : (a0 < 0) = True := eq_true (by simpa using c9)))
                clear c9
                by_cases c10 : 1 + x3_2.size ≤ 9223372036854775807
                · rw [if_pos c10] at H
                  have c10b0 := eq_true c10
                  have c10b1 : decide (1 + x3_2.size ≤ 9223372036854775807) = true := decide_eq_true c10
                  try have c10b2 : (9223372036854775807 < 1 + x3_2.size) = False := eq_false (Nat.not_lt.2 c10)
                  obtain rfl := Option.some.inj H
                  simp only [Option.some.injEq, Prod.mk.injEq] at H
                  obtain ⟨rfl⟩ := H
                  go_wp2
                  all_goals (try (exfalso; have q_ := of_eq_true c9b1; omega))
                  go_ret
                  exact ⟨by first | rfl | (simp; done) | (simp [*]; done), by repeat (first | exact Drawn0.refl _ | apply Drawn0.step)⟩
                · rw [if_neg c10] at H
                  exact absurd H (by simp)
              · rw [if_neg c9] at H
                have c9b0 : (decide (a0 < 0)) = false := by simpa using c9
                (try (have c9b1 : (a0 < 0) = False := eq_false (by simpa using c9)))
                clear c9
                obtain rfl := Option.some.inj H
                simp only [Option.some.injEq, Prod.mk.injEq] at H
                obtain ⟨rfl⟩ := H
                go_wp2
                all_goals (try (exfalso; have q_ := of_eq_false c9b1; omega))
                go_ret
                exact ⟨by first | rfl | (simp; done) | (simp [*]; done), by repeat (first | exact Drawn0.refl _ | apply Drawn0.step)⟩
            · rw [if_neg c8] at H
              have c8b0 : (x0_2 == 0) = false := beq_eq_false_iff_ne.mpr c8
              have c8b1 : (x0_2 != 0) = true := bne_iff_ne.mpr c8
              by_cases c11 : (Int.tmod x0_2 10) < 0
              · rw [if_pos c11] at H
                have c11b0 : decide ((Int.tmod x0_2 10) < 0) = true := decide_eq_true c11
                clear c11
                obtain ⟨ji12, hji12⟩ : ∃ j_ : Int, (wrap64 (-(Int.tmod x0_2 10))) = j_ := ⟨_, rfl⟩
                replace H : (if 0 ≤ (ji12) then (if (ji12) ≤ (wrap64 ((ji12) + 1)) then (if (wrap64 ((ji12) + 1)) ≤ 10 then (if ((⟨#[48, 49, 50, 51, 52, 53, 54, 55, 56, 57]⟩ : ByteArray).extract ((ji12) : Int).toNat ((wrap64 ((ji12) + 1)) : Int).toNat).size + x3_2.size ≤ 9223372036854775807 then (railplanref1_Decimal.l0 k2 (wrap64 (Int.tdiv x0_2 10)) (((⟨#[48, 49, 50, 51, 52, 53, 54, 55, 56, 57]⟩ : ByteArray).extract ((ji12) : Int).toNat ((wrap64 ((ji12) + 1)) : Int).toNat) ++ x3_2) (decide (a0 < 0))) else (none)) else (none)) else (none)) else (none)) = some r := by first | (rw [hji12] at H; exact H) | (simp only [hji12] at H ⊢; exact H)
                have hji12w : (IntKind.i64.wrap (-(Int.tmod x0_2 10))) = ji12 := (i64_w _).trans hji12
                by_cases c13 : 0 ≤ (ji12)
                · rw [if_pos c13] at H
                  have c13b0 := eq_true c13
                  have c13b1 : decide (0 ≤ (ji12)) = true := decide_eq_true c13
                  clear c13
                  by_cases c14 : (ji12) ≤ (wrap64 ((ji12) + 1))
                  · rw [if_pos c14] at H
                    have c14b0 := eq_true c14
                    have c14b1 : decide ((ji12) ≤ (wrap64 ((ji12) + 1))) = true := decide_eq_true c14
                    by_cases c15 : (wrap64 ((ji12) + 1)) ≤ 10
                    · rw [if_pos c15] at H
                      have c15b0 := eq_true c15
                      have c15b1 : decide ((wrap64 ((ji12) + 1)) ≤ 10) = true := decide_eq_true c15
                      by_cases c16 : ((⟨#[48, 49, 50, 51, 52, 53, 54, 55, 56, 57]⟩ : ByteArray).extract ((ji12) : Int).toNat ((wrap64 ((ji12) + 1)) : Int).toNat).size + x3_2.size ≤ 9223372036854775807
                      · rw [if_pos c16] at H
                        have c16b0 := eq_true c16
                        have c16b1 : decide (((⟨#[48, 49, 50, 51, 52, 53, 54, 55, 56, 57]⟩ : ByteArray).extract ((ji12) : Int).toNat ((wrap64 ((ji12) + 1)) : Int).toNat).size + x3_2.size ≤ 9223372036854775807) = true := decide_eq_true c16
                        try have c16b2 : (9223372036854775807 < ((⟨#[48, 49, 50, 51, 52, 53, 54, 55, 56, 57]⟩ : ByteArray).extract ((ji12) : Int).toNat ((wrap64 ((ji12) + 1)) : Int).toNat).size + x3_2.size) = False := eq_false (Nat.not_lt.2 c16)
                        have H' := Aside0.mk H
                        clear H
                        go_wp2
                        go_roundg k2
                        case measure => have := HJ1.out; have := HK2.out; omega
                        case rel => exact ⟨(wrap64 (Int.tdiv x0_2 10)), (((⟨#[48, 49, 50, 51, 52, 53, 54, 55, 56, 57]⟩ : ByteArray).extract ((ji12) : Int).toNat ((wrap64 ((ji12) + 1)) : Int).toNat) ++ x3_2), (by first | rfl | (simp; done) | (simp [*]; done)), (by first | rfl | (simp; done) | (simp only [← hji12] <;> (first | rfl | simp)) | (simp [*]; done)), H', ⟨by have := HJ1.out; have := HK2.out; omega⟩, by repeat (first | exact Drawn0.refl _ | apply Drawn0.step)⟩
                      · rw [if_neg c16] at H
                        exact absurd H (by simp)
                    · rw [if_neg c15] at H
                      exact absurd H (by simp)
                  · rw [if_neg c14] at H
                    exact absurd H (by simp)
                · rw [if_neg c13] at H
                  exact absurd H (by simp)
              · rw [if_neg c11] at H
                have c11b0 : decide ((Int.tmod x0_2 10) < 0) = false := decide_eq_false c11
                clear c11
                obtain ⟨ji17, hji17⟩ : ∃ j_ : Int, (Int.tmod x0_2 10) = j_ := ⟨_, rfl⟩
                replace H : (if 0 ≤ (ji17) then (if (ji17) ≤ (wrap64 ((ji17) + 1)) then (if (wrap64 ((ji17) + 1)) ≤ 10 then (if ((⟨#[48, 49, 50, 51, 52, 53, 54, 55, 56, 57]⟩ : ByteArray).extract ((ji17) : Int).toNat ((wrap64 ((ji17) + 1)) : Int).toNat).size + x3_2.size ≤ 9223372036854775807 then (railplanref1_Decimal.l0 k2 (wrap64 (Int.tdiv x0_2 10)) (((⟨#[48, 49, 50, 51, 52, 53, 54, 55, 56, 57]⟩ : ByteArray).extract ((ji17) : Int).toNat ((wrap64 ((ji17) + 1)) : Int).toNat) ++ x3_2) (decide (a0 < 0))) else (none)) else (none)) else (none)) else (none)) = some r := by first | (rw [hji17] at H; exact H) | (simp only [hji17] at H ⊢; exact H)
                (try rw [hji17] at c11b0)
                by_cases c18 : 0 ≤ (ji17)
                · rw [if_pos c18] at H
                  have c18b0 := eq_true c18
                  have c18b1 : decide (0 ≤ (ji17)) = true := decide_eq_true c18
                  clear c18
                  by_cases c19 : (ji17) ≤ (wrap64 ((ji17) + 1))
                  · rw [if_pos c19] at H
                    have c19b0 := eq_true c19
                    have c19b1 : decide ((ji17) ≤ (wrap64 ((ji17) + 1))) = true := decide_eq_true c19
                    by_cases c20 : (wrap64 ((ji17) + 1)) ≤ 10
                    · rw [if_pos c20] at H
                      have c20b0 := eq_true c20
                      have c20b1 : decide ((wrap64 ((ji17) + 1)) ≤ 10) = true := decide_eq_true c20
                      by_cases c21 : ((⟨#[48, 49, 50, 51, 52, 53, 54, 55, 56, 57]⟩ : ByteArray).extract ((ji17) : Int).toNat ((wrap64 ((ji17) + 1)) : Int).toNat).size + x3_2.size ≤ 9223372036854775807
                      · rw [if_pos c21] at H
                        have c21b0 := eq_true c21
                        have c21b1 : decide (((⟨#[48, 49, 50, 51, 52, 53, 54, 55, 56, 57]⟩ : ByteArray).extract ((ji17) : Int).toNat ((wrap64 ((ji17) + 1)) : Int).toNat).size + x3_2.size ≤ 9223372036854775807) = true := decide_eq_true c21
                        try have c21b2 : (9223372036854775807 < ((⟨#[48, 49, 50, 51, 52, 53, 54, 55, 56, 57]⟩ : ByteArray).extract ((ji17) : Int).toNat ((wrap64 ((ji17) + 1)) : Int).toNat).size + x3_2.size) = False := eq_false (Nat.not_lt.2 c21)
                        have H' := Aside0.mk H
                        clear H
                        go_wp2
                        go_roundg k2
                        case measure => have := HJ1.out; have := HK2.out; omega
                        case rel => exact ⟨(wrap64 (Int.tdiv x0_2 10)), (((⟨#[48, 49, 50, 51, 52, 53, 54, 55, 56, 57]⟩ : ByteArray).extract ((ji17) : Int).toNat ((wrap64 ((ji17) + 1)) : Int).toNat) ++ x3_2), (by first | rfl | (simp; done) | (simp [*]; done)), (by first | rfl | (simp; done) | (simp only [← hji17] <;> (first | rfl | simp)) | (simp [*]; done)), H', ⟨by have := HJ1.out; have := HK2.out; omega⟩, by repeat (first | exact Drawn0.refl _ | apply Drawn0.step)⟩
                      · rw [if_neg c21] at H
                        exact absurd H (by simp)
                    · rw [if_neg c20] at H
                      exact absurd H (by simp)
                  · rw [if_neg c19] at H
                    exact absurd H (by simp)
                · rw [if_neg c18] at H
                  exact absurd H (by simp)

/-! ### layout_Check: function 9, told by hand: QCheck -/

/-! ### layout_Has: function 14 -/
def layout_Has.f (l0_0 : List ByteArray) (l0_1 : List ByteArray) (l0_2 : List (S31)) (l0_3 : List (S61)) (a1_0 : Int) (a1_1 : Int) : Option (Bool) := (layout_within.f a1_0 0 (wrap64 ((l0_2.length : Int) - 1))).bind fun t106 => (if t106 = true then (if a1_1 = 0 then ((layout_Check.f l0_0 l0_1 l0_2 l0_3).bind fun t107 => (some (t107 == 0))) else (if a1_1 = 1 then ((layout_Check.f l0_0 l0_1 l0_2 l0_3).bind fun t108 => (some (t108 == 0))) else (some false))) else (some false))
set_option maxHeartbeats 8000000 in
set_option maxRecDepth 100000 in
theorem layout_Has.calls (A0_0 : Option Addr) (c0_0 : Nat) (l0_0 : List ByteArray) (A0_1 : Option Addr) (c0_1 : Nat) (l0_1 : List ByteArray) (A0_2 : Option Addr) (c0_2 : Nat) (l0_2 : List (S31)) (A0_3 : Option Addr) (c0_3 : Nat) (l0_3 : List (S61)) (a1_0 : Int) (a1_1 : Int) (r : Bool) (w : World) (hr0_0 : Kd.C Kd.string w A0_0 l0_0.length l0_0) (hc0_0 : l0_0.length ≤ c0_0) (hr0_1 : Kd.C Kd.string w A0_1 l0_1.length l0_1) (hc0_1 : l0_1.length ≤ c0_1) (hr0_2 : Kd.C k31 w A0_2 l0_2.length l0_2) (hc0_2 : l0_2.length ≤ c0_2) (hr0_3 : Kd.C k61 w A0_3 l0_3.length l0_3) (hc0_3 : l0_3.length ≤ c0_3) (h : layout_Has.f l0_0 l0_1 l0_2 l0_3 a1_0 a1_1 = some r) :
    Calls Try.prog 14 #[.agg #[.slice A0_0 l0_0.length c0_0, .slice A0_1 l0_1.length c0_1, .slice A0_2 l0_2.length c0_2, .slice A0_3 l0_3.length c0_3], .agg #[.int .i64 a1_0, .int .i64 a1_1]] w fun e w' => e = .returned (.bool r) ∧ Below w.heap.size w w' := by
  have hu28 := Try.underlying28
  have hu40 := Try.underlying40
  have HR0_0 := Aside0.mk hr0_0
  have HC0_0 := Aside0.mk hc0_0
  clear hr0_0 hc0_0
  have HR0_1 := Aside0.mk hr0_1
  have HC0_1 := Aside0.mk hc0_1
  clear hr0_1 hc0_1
  have HR0_2 := Aside0.mk hr0_2
  have HC0_2 := Aside0.mk hc0_2
  clear hr0_2 hc0_2
  have HR0_3 := Aside0.mk hr0_3
  have HC0_3 := Aside0.mk hc0_3
  clear hr0_3 hc0_3
  have HB := Aside0.mk (Below.refl w.heap.size w)
  have H : ((layout_within.f a1_0 0 (wrap64 ((l0_2.length : Int) - 1))).bind fun t106 => (if t106 = true then (if a1_1 = 0 then ((layout_Check.f l0_0 l0_1 l0_2 l0_3).bind fun t107 => (some (t107 == 0))) else (if a1_1 = 1 then ((layout_Check.f l0_0 l0_1 l0_2 l0_3).bind fun t108 => (some (t108 == 0))) else (some false))) else (some false))) = some r := h
  clear h
  replace H := Option.bind_eq_some_iff.mp H
  obtain ⟨t106, A30, H⟩ := H
  replace H : (if t106 = true then (if a1_1 = 0 then ((layout_Check.f l0_0 l0_1 l0_2 l0_3).bind fun t107 => (some (t107 == 0))) else (if a1_1 = 1 then ((layout_Check.f l0_0 l0_1 l0_2 l0_3).bind fun t108 => (some (t108 == 0))) else (some false))) else (some false)) = some r := H
  have A3 := Aside0.mk A30
  clear A30
  by_cases c4 : t106 = true
  · subst c4
    have H1 : (if a1_1 = 0 then ((layout_Check.f l0_0 l0_1 l0_2 l0_3).bind fun t107 => (some (t107 == 0))) else (if a1_1 = 1 then ((layout_Check.f l0_0 l0_1 l0_2 l0_3).bind fun t108 => (some (t108 == 0))) else (some false))) = some r := by rw [if_pos rfl] at H; exact H
    clear H
    have H := H1
    clear H1
    by_cases c5 : a1_1 = 0
    · rw [if_pos c5] at H
      have c5b0 : (a1_1 == 0) = true := beq_iff_eq.mpr c5
      have c5b1 : (a1_1 != 0) = false := bne_eq_false_iff_eq.mpr c5
      clear c5
      replace H := Option.bind_eq_some_iff.mp H
      obtain ⟨t107, A60, H⟩ := H
      replace H : (some (t107 == 0)) = some r := H
      have A6 := Aside0.mk A60
      clear A60
      obtain rfl := Option.some.inj H
      simp only [Option.some.injEq, Prod.mk.injEq] at H
      obtain ⟨rfl⟩ := H
      go_enter Try.func14, Try.ntmps14
      go_wp2_with (first | ((with_reducible refine gate_dst (N := 2) rfl ?_); refine box_event ?hg (N := 2) ?hd (cs := #[.slice A0_0 l0_0.length c0_0, .slice A0_1 l0_1.length c0_1, .slice A0_2 l0_2.length c0_2, .slice A0_3 l0_3.length c0_3]) (t := 28) ?hr ?_; (case hd => rfl); (case hg => rfl); (case hr => first | (go_simp; done) | (go_simp; rfl)); intro gb104 hg w7 hbox hb; have n0_ := Aside0.mk (below_step (by repeat (first | (with_reducible first | exact HB.out | apply below_alloc | apply pw_below_drewN | apply below_drew1) | exact HB.out)) hb); have n1_ := Aside0.mk (hbox); have n2_ := Aside0.mk ((by rw [hg]; exact (below_size (by repeat (first | (with_reducible first | exact HB.out | apply below_alloc | apply pw_below_drewN | apply below_drew1) | exact HB.out))) : w.heap.size ≤ gb104)); have n3_ := Aside0.mk ((by rw [hg]; exact (below_size (by repeat (first | (with_reducible first | exact HB.out | apply below_alloc | apply pw_below_drewN | apply below_drew1) | exact HB.out))) : w.heap.size ≤ gb104)); clear HB; have HB := n0_; have BK104 := n1_; have GW104 := n2_; have GE104 := n3_; clear n0_ n1_ n2_ n3_; clear hb hbox hg) | ((with_reducible refine gate_dst (N := 3) rfl ?_); refine box_event ?hg (N := 3) ?hd (cs := #[.int .i64 a1_0, .int .i64 a1_1]) (t := 40) ?hr ?_; (case hd => rfl); (case hg => rfl); (case hr => first | (go_simp; done) | (go_simp; rfl)); intro gb105 hg w8 hbox hb; have n0_ := Aside0.mk (blk_below (g := gb104) (o := .cells #[.slice A0_0 l0_0.length c0_0, .slice A0_1 l0_1.length c0_1, .slice A0_2 l0_2.length c0_2, .slice A0_3 l0_3.length c0_3] 28 (0, 0)) (by (with_reducible repeat (first | refine blk_drewN ?_ _ | refine blk_drew ?_ | refine blk_alloc ?_ _)); exact BK104.out) hb); have n1_ := Aside0.mk (below_step (by repeat (first | (with_reducible first | exact HB.out | apply below_alloc | apply pw_below_drewN | apply below_drew1 | refine below_set ?_ GE104.out) | exact HB.out)) hb); have n2_ := Aside0.mk (hbox); have n3_ := Aside0.mk ((by rw [hg]; exact (below_size (by repeat (first | (with_reducible first | exact HB.out | apply below_alloc | apply pw_below_drewN | apply below_drew1 | refine below_set ?_ GE104.out) | exact HB.out))) : w.heap.size ≤ gb105)); have n4_ := Aside0.mk ((by rw [hg]; exact (below_size (by repeat (first | (with_reducible first | exact HB.out | apply below_alloc | apply pw_below_drewN | apply below_drew1 | refine below_set ?_ GE104.out) | exact HB.out))) : w.heap.size ≤ gb105)); have n5_ := Aside0.mk ((by rw [hg]; exact Nat.ne_of_lt (blk_lt (g := gb104) (o := .cells #[.slice A0_0 l0_0.length c0_0, .slice A0_1 l0_1.length c0_1, .slice A0_2 l0_2.length c0_2, .slice A0_3 l0_3.length c0_3] 28 (0, 0)) (by (with_reducible repeat (first | refine blk_drewN ?_ _ | refine blk_drew ?_ | refine blk_alloc ?_ _)); exact BK104.out)) : gb104 ≠ gb105)); have n6_ := Aside0.mk ((by rw [hg]; exact Nat.ne_of_gt (blk_lt (g := gb104) (o := .cells #[.slice A0_0 l0_0.length c0_0, .slice A0_1 l0_1.length c0_1, .slice A0_2 l0_2.length c0_2, .slice A0_3 l0_3.length c0_3] 28 (0, 0)) (by (with_reducible repeat (first | refine blk_drewN ?_ _ | refine blk_drew ?_ | refine blk_alloc ?_ _)); exact BK104.out)) : gb105 ≠ gb104)); clear BK104; clear HB; have BK104 := n0_; have HB := n1_; have BK105 := n2_; have GW105 := n3_; have GE105 := n4_; have NB104_105 := n5_; have NB105_104 := n6_; clear n0_ n1_ n2_ n3_ n4_ n5_ n6_; clear hb hbox hg; have hnb9 := NB105_104.out; have hnc9 := NB104_105.out; have hcz10_0 : w8.cell? ⟨gb105, 0, none⟩ = some (.int .i64 a1_0) := (blk_cell BK105.out 0).trans rfl; have hcz10_1 : w8.cell? ⟨gb105, 1, none⟩ = some (.int .i64 a1_1) := (blk_cell BK105.out 1).trans rfl; have hfz10_0 := blk_frozen BK105.out 0; have hfz10_1 := blk_frozen BK105.out 1; have hcz11_0 : w8.cell? ⟨gb104, 0, none⟩ = some (.slice A0_0 l0_0.length c0_0) := (blk_cell BK104.out 0).trans rfl; have hcz11_1 : w8.cell? ⟨gb104, 1, none⟩ = some (.slice A0_1 l0_1.length c0_1) := (blk_cell BK104.out 1).trans rfl; have hcz11_2 : w8.cell? ⟨gb104, 2, none⟩ = some (.slice A0_2 l0_2.length c0_2) := (blk_cell BK104.out 2).trans rfl; have hcz11_3 : w8.cell? ⟨gb104, 3, none⟩ = some (.slice A0_3 l0_3.length c0_3) := (blk_cell BK104.out 3).trans rfl; have hfz11_0 := blk_frozen BK104.out 0; have hfz11_1 := blk_frozen BK104.out 1; have hfz11_2 := blk_frozen BK104.out 2; have hfz11_3 := blk_frozen BK104.out 3) | ((with_reducible refine gate_callee (f := 26) rfl ?_); refine goesL_ (some 11) rfl rfl Try.func26 (by kernel_rfl) rfl #[.int .i64 a1_0, .int .i64 0, .int .i64 (wrap64 ((l0_2.length : Int) - 1))] rfl (by (try simp only [List.map_toArray, List.map_cons, List.map_nil]); first | done | rfl | (simp only [List.length_drop, List.length_take]; rfl)) ?_; (with_reducible refine (layout_within.calls a1_0 0 (wrap64 ((l0_2.length : Int) - 1)) true _ A3.out).mono ?_); rintro e w' ⟨rfl, ⟨nd, rfl⟩⟩; refine ⟨_, rfl, ?_⟩) | (go_at_call 9; (with_reducible refine (layout_Check.calls _ _ l0_0 _ _ l0_1 _ _ l0_2 _ _ l0_3 t107 _ ?side1 ?side2 ?side3 ?side4 ?side5 ?side6 ?side7 ?side8 A6.out).mono ?_); (case side1 => repeat (first | exact (Kd.C_below HR0_0.out (by repeat (first | (with_reducible first | exact HB.out | apply below_alloc | apply pw_below_drewN | apply below_drew1 | refine below_set ?_ GE104.out | refine below_set ?_ GE105.out) | exact HB.out))) | (with_reducible refine Kd.C_alloc ?_ _) | (with_reducible refine Kd.C_drewN ?_ _) | (with_reducible refine Kd.C_drew ?_))); (case side2 => exact HC0_0.out); (case side3 => repeat (first | exact (Kd.C_below HR0_1.out (by repeat (first | (with_reducible first | exact HB.out | apply below_alloc | apply pw_below_drewN | apply below_drew1 | refine below_set ?_ GE104.out | refine below_set ?_ GE105.out) | exact HB.out))) | (with_reducible refine Kd.C_alloc ?_ _) | (with_reducible refine Kd.C_drewN ?_ _) | (with_reducible refine Kd.C_drew ?_))); (case side4 => exact HC0_1.out); (case side5 => repeat (first | exact (Kd.C_below HR0_2.out (by repeat (first | (with_reducible first | exact HB.out | apply below_alloc | apply pw_below_drewN | apply below_drew1 | refine below_set ?_ GE104.out | refine below_set ?_ GE105.out) | exact HB.out))) | (with_reducible refine Kd.C_alloc ?_ _) | (with_reducible refine Kd.C_drewN ?_ _) | (with_reducible refine Kd.C_drew ?_))); (case side6 => exact HC0_2.out); (case side7 => repeat (first | exact (Kd.C_below HR0_3.out (by repeat (first | (with_reducible first | exact HB.out | apply below_alloc | apply pw_below_drewN | apply below_drew1 | refine below_set ?_ GE104.out | refine below_set ?_ GE105.out) | exact HB.out))) | (with_reducible refine Kd.C_alloc ?_ _) | (with_reducible refine Kd.C_drewN ?_ _) | (with_reducible refine Kd.C_drew ?_))); (case side8 => exact HC0_3.out); rintro e w12 ⟨rfl, hb⟩; have n0_ := Aside0.mk (blk_below (g := gb104) (o := .cells #[.slice A0_0 l0_0.length c0_0, .slice A0_1 l0_1.length c0_1, .slice A0_2 l0_2.length c0_2, .slice A0_3 l0_3.length c0_3] 28 (0, 0)) (by (with_reducible repeat (first | refine blk_drewN ?_ _ | refine blk_drew ?_ | refine blk_alloc ?_ _)); exact BK104.out) hb); have n1_ := Aside0.mk (blk_below (g := gb105) (o := .cells #[.int .i64 a1_0, .int .i64 a1_1] 40 (0, 0)) (by (with_reducible repeat (first | refine blk_drewN ?_ _ | refine blk_drew ?_ | refine blk_alloc ?_ _)); exact BK105.out) hb); have n2_ := Aside0.mk (below_step (by repeat (first | (with_reducible first | exact HB.out | apply below_alloc | apply pw_below_drewN | apply below_drew1 | refine below_set ?_ GE104.out | refine below_set ?_ GE105.out) | exact HB.out)) hb); clear BK104; clear BK105; clear HB; have BK104 := n0_; have BK105 := n1_; have HB := n2_; clear n0_ n1_ n2_; (try clear hb); (try clear hb2); (try clear hk); (try clear hi)))
      go_ret
      exact ⟨by first | rfl | (simp [errW_none, errW_some] <;> rfl) | (simp [*, errW_none, errW_some] <;> rfl), by repeat (first | (with_reducible first | exact HB.out | apply below_alloc | apply pw_below_drewN | apply below_drew1 | refine below_set ?_ GE104.out | refine below_set ?_ GE105.out) | exact HB.out)⟩
    · rw [if_neg c5] at H
      have c5b0 : (a1_1 == 0) = false := beq_eq_false_iff_ne.mpr c5
      have c5b1 : (a1_1 != 0) = true := bne_iff_ne.mpr c5
      by_cases c13 : a1_1 = 1
      · rw [if_pos c13] at H
        have c13b0 : (a1_1 == 1) = true := beq_iff_eq.mpr c13
        have c13b1 : (a1_1 != 1) = false := bne_eq_false_iff_eq.mpr c13
        clear c13
        replace H := Option.bind_eq_some_iff.mp H
        obtain ⟨t108, A140, H⟩ := H
        replace H : (some (t108 == 0)) = some r := H
        have A14 := Aside0.mk A140
        clear A140
        obtain rfl := Option.some.inj H
        simp only [Option.some.injEq, Prod.mk.injEq] at H
        obtain ⟨rfl⟩ := H
        go_enter Try.func14, Try.ntmps14
        go_wp2_with (first | ((with_reducible refine gate_dst (N := 2) rfl ?_); refine box_event ?hg (N := 2) ?hd (cs := #[.slice A0_0 l0_0.length c0_0, .slice A0_1 l0_1.length c0_1, .slice A0_2 l0_2.length c0_2, .slice A0_3 l0_3.length c0_3]) (t := 28) ?hr ?_; (case hd => rfl); (case hg => rfl); (case hr => first | (go_simp; done) | (go_simp; rfl)); intro gb104 hg w15 hbox hb; have n0_ := Aside0.mk (below_step (by repeat (first | (with_reducible first | exact HB.out | apply below_alloc | apply pw_below_drewN | apply below_drew1) | exact HB.out)) hb); have n1_ := Aside0.mk (hbox); have n2_ := Aside0.mk ((by rw [hg]; exact (below_size (by repeat (first | (with_reducible first | exact HB.out | apply below_alloc | apply pw_below_drewN | apply below_drew1) | exact HB.out))) : w.heap.size ≤ gb104)); have n3_ := Aside0.mk ((by rw [hg]; exact (below_size (by repeat (first | (with_reducible first | exact HB.out | apply below_alloc | apply pw_below_drewN | apply below_drew1) | exact HB.out))) : w.heap.size ≤ gb104)); clear HB; have HB := n0_; have BK104 := n1_; have GW104 := n2_; have GE104 := n3_; clear n0_ n1_ n2_ n3_; clear hb hbox hg) | ((with_reducible refine gate_dst (N := 3) rfl ?_); refine box_event ?hg (N := 3) ?hd (cs := #[.int .i64 a1_0, .int .i64 a1_1]) (t := 40) ?hr ?_; (case hd => rfl); (case hg => rfl); (case hr => first | (go_simp; done) | (go_simp; rfl)); intro gb105 hg w16 hbox hb; have n0_ := Aside0.mk (blk_below (g := gb104) (o := .cells #[.slice A0_0 l0_0.length c0_0, .slice A0_1 l0_1.length c0_1, .slice A0_2 l0_2.length c0_2, .slice A0_3 l0_3.length c0_3] 28 (0, 0)) (by (with_reducible repeat (first | refine blk_drewN ?_ _ | refine blk_drew ?_ | refine blk_alloc ?_ _)); exact BK104.out) hb); have n1_ := Aside0.mk (below_step (by repeat (first | (with_reducible first | exact HB.out | apply below_alloc | apply pw_below_drewN | apply below_drew1 | refine below_set ?_ GE104.out) | exact HB.out)) hb); have n2_ := Aside0.mk (hbox); have n3_ := Aside0.mk ((by rw [hg]; exact (below_size (by repeat (first | (with_reducible first | exact HB.out | apply below_alloc | apply pw_below_drewN | apply below_drew1 | refine below_set ?_ GE104.out) | exact HB.out))) : w.heap.size ≤ gb105)); have n4_ := Aside0.mk ((by rw [hg]; exact (below_size (by repeat (first | (with_reducible first | exact HB.out | apply below_alloc | apply pw_below_drewN | apply below_drew1 | refine below_set ?_ GE104.out) | exact HB.out))) : w.heap.size ≤ gb105)); have n5_ := Aside0.mk ((by rw [hg]; exact Nat.ne_of_lt (blk_lt (g := gb104) (o := .cells #[.slice A0_0 l0_0.length c0_0, .slice A0_1 l0_1.length c0_1, .slice A0_2 l0_2.length c0_2, .slice A0_3 l0_3.length c0_3] 28 (0, 0)) (by (with_reducible repeat (first | refine blk_drewN ?_ _ | refine blk_drew ?_ | refine blk_alloc ?_ _)); exact BK104.out)) : gb104 ≠ gb105)); have n6_ := Aside0.mk ((by rw [hg]; exact Nat.ne_of_gt (blk_lt (g := gb104) (o := .cells #[.slice A0_0 l0_0.length c0_0, .slice A0_1 l0_1.length c0_1, .slice A0_2 l0_2.length c0_2, .slice A0_3 l0_3.length c0_3] 28 (0, 0)) (by (with_reducible repeat (first | refine blk_drewN ?_ _ | refine blk_drew ?_ | refine blk_alloc ?_ _)); exact BK104.out)) : gb105 ≠ gb104)); clear BK104; clear HB; have BK104 := n0_; have HB := n1_; have BK105 := n2_; have GW105 := n3_; have GE105 := n4_; have NB104_105 := n5_; have NB105_104 := n6_; clear n0_ n1_ n2_ n3_ n4_ n5_ n6_; clear hb hbox hg; have hnb17 := NB105_104.out; have hnc17 := NB104_105.out; have hcz18_0 : w16.cell? ⟨gb105, 0, none⟩ = some (.int .i64 a1_0) := (blk_cell BK105.out 0).trans rfl; have hcz18_1 : w16.cell? ⟨gb105, 1, none⟩ = some (.int .i64 a1_1) := (blk_cell BK105.out 1).trans rfl; have hfz18_0 := blk_frozen BK105.out 0; have hfz18_1 := blk_frozen BK105.out 1; have hcz19_0 : w16.cell? ⟨gb104, 0, none⟩ = some (.slice A0_0 l0_0.length c0_0) := (blk_cell BK104.out 0).trans rfl; have hcz19_1 : w16.cell? ⟨gb104, 1, none⟩ = some (.slice A0_1 l0_1.length c0_1) := (blk_cell BK104.out 1).trans rfl; have hcz19_2 : w16.cell? ⟨gb104, 2, none⟩ = some (.slice A0_2 l0_2.length c0_2) := (blk_cell BK104.out 2).trans rfl; have hcz19_3 : w16.cell? ⟨gb104, 3, none⟩ = some (.slice A0_3 l0_3.length c0_3) := (blk_cell BK104.out 3).trans rfl; have hfz19_0 := blk_frozen BK104.out 0; have hfz19_1 := blk_frozen BK104.out 1; have hfz19_2 := blk_frozen BK104.out 2; have hfz19_3 := blk_frozen BK104.out 3) | ((with_reducible refine gate_callee (f := 26) rfl ?_); refine goesL_ (some 11) rfl rfl Try.func26 (by kernel_rfl) rfl #[.int .i64 a1_0, .int .i64 0, .int .i64 (wrap64 ((l0_2.length : Int) - 1))] rfl (by (try simp only [List.map_toArray, List.map_cons, List.map_nil]); first | done | rfl | (simp only [List.length_drop, List.length_take]; rfl)) ?_; (with_reducible refine (layout_within.calls a1_0 0 (wrap64 ((l0_2.length : Int) - 1)) true _ A3.out).mono ?_); rintro e w' ⟨rfl, ⟨nd, rfl⟩⟩; refine ⟨_, rfl, ?_⟩) | (go_at_call 9; (with_reducible refine (layout_Check.calls _ _ l0_0 _ _ l0_1 _ _ l0_2 _ _ l0_3 t108 _ ?side1 ?side2 ?side3 ?side4 ?side5 ?side6 ?side7 ?side8 A14.out).mono ?_); (case side1 => repeat (first | exact (Kd.C_below HR0_0.out (by repeat (first | (with_reducible first | exact HB.out | apply below_alloc | apply pw_below_drewN | apply below_drew1 | refine below_set ?_ GE104.out | refine below_set ?_ GE105.out) | exact HB.out))) | (with_reducible refine Kd.C_alloc ?_ _) | (with_reducible refine Kd.C_drewN ?_ _) | (with_reducible refine Kd.C_drew ?_))); (case side2 => exact HC0_0.out); (case side3 => repeat (first | exact (Kd.C_below HR0_1.out (by repeat (first | (with_reducible first | exact HB.out | apply below_alloc | apply pw_below_drewN | apply below_drew1 | refine below_set ?_ GE104.out | refine below_set ?_ GE105.out) | exact HB.out))) | (with_reducible refine Kd.C_alloc ?_ _) | (with_reducible refine Kd.C_drewN ?_ _) | (with_reducible refine Kd.C_drew ?_))); (case side4 => exact HC0_1.out); (case side5 => repeat (first | exact (Kd.C_below HR0_2.out (by repeat (first | (with_reducible first | exact HB.out | apply below_alloc | apply pw_below_drewN | apply below_drew1 | refine below_set ?_ GE104.out | refine below_set ?_ GE105.out) | exact HB.out))) | (with_reducible refine Kd.C_alloc ?_ _) | (with_reducible refine Kd.C_drewN ?_ _) | (with_reducible refine Kd.C_drew ?_))); (case side6 => exact HC0_2.out); (case side7 => repeat (first | exact (Kd.C_below HR0_3.out (by repeat (first | (with_reducible first | exact HB.out | apply below_alloc | apply pw_below_drewN | apply below_drew1 | refine below_set ?_ GE104.out | refine below_set ?_ GE105.out) | exact HB.out))) | (with_reducible refine Kd.C_alloc ?_ _) | (with_reducible refine Kd.C_drewN ?_ _) | (with_reducible refine Kd.C_drew ?_))); (case side8 => exact HC0_3.out); rintro e w20 ⟨rfl, hb⟩; have n0_ := Aside0.mk (blk_below (g := gb104) (o := .cells #[.slice A0_0 l0_0.length c0_0, .slice A0_1 l0_1.length c0_1, .slice A0_2 l0_2.length c0_2, .slice A0_3 l0_3.length c0_3] 28 (0, 0)) (by (with_reducible repeat (first | refine blk_drewN ?_ _ | refine blk_drew ?_ | refine blk_alloc ?_ _)); exact BK104.out) hb); have n1_ := Aside0.mk (blk_below (g := gb105) (o := .cells #[.int .i64 a1_0, .int .i64 a1_1] 40 (0, 0)) (by (with_reducible repeat (first | refine blk_drewN ?_ _ | refine blk_drew ?_ | refine blk_alloc ?_ _)); exact BK105.out) hb); have n2_ := Aside0.mk (below_step (by repeat (first | (with_reducible first | exact HB.out | apply below_alloc | apply pw_below_drewN | apply below_drew1 | refine below_set ?_ GE104.out | refine below_set ?_ GE105.out) | exact HB.out)) hb); clear BK104; clear BK105; clear HB; have BK104 := n0_; have BK105 := n1_; have HB := n2_; clear n0_ n1_ n2_; (try clear hb); (try clear hb2); (try clear hk); (try clear hi)))
        go_ret
        exact ⟨by first | rfl | (simp [errW_none, errW_some] <;> rfl) | (simp [*, errW_none, errW_some] <;> rfl), by repeat (first | (with_reducible first | exact HB.out | apply below_alloc | apply pw_below_drewN | apply below_drew1 | refine below_set ?_ GE104.out | refine below_set ?_ GE105.out) | exact HB.out)⟩
      · rw [if_neg c13] at H
        have c13b0 : (a1_1 == 1) = false := beq_eq_false_iff_ne.mpr c13
        have c13b1 : (a1_1 != 1) = true := bne_iff_ne.mpr c13
        obtain rfl := Option.some.inj H
        simp only [Option.some.injEq, Prod.mk.injEq] at H
        obtain ⟨rfl⟩ := H
        go_enter Try.func14, Try.ntmps14
        go_wp2_with (first | ((with_reducible refine gate_dst (N := 2) rfl ?_); refine box_event ?hg (N := 2) ?hd (cs := #[.slice A0_0 l0_0.length c0_0, .slice A0_1 l0_1.length c0_1, .slice A0_2 l0_2.length c0_2, .slice A0_3 l0_3.length c0_3]) (t := 28) ?hr ?_; (case hd => rfl); (case hg => rfl); (case hr => first | (go_simp; done) | (go_simp; rfl)); intro gb104 hg w21 hbox hb; have n0_ := Aside0.mk (below_step (by repeat (first | (with_reducible first | exact HB.out | apply below_alloc | apply pw_below_drewN | apply below_drew1) | exact HB.out)) hb); have n1_ := Aside0.mk (hbox); have n2_ := Aside0.mk ((by rw [hg]; exact (below_size (by repeat (first | (with_reducible first | exact HB.out | apply below_alloc | apply pw_below_drewN | apply below_drew1) | exact HB.out))) : w.heap.size ≤ gb104)); have n3_ := Aside0.mk ((by rw [hg]; exact (below_size (by repeat (first | (with_reducible first | exact HB.out | apply below_alloc | apply pw_below_drewN | apply below_drew1) | exact HB.out))) : w.heap.size ≤ gb104)); clear HB; have HB := n0_; have BK104 := n1_; have GW104 := n2_; have GE104 := n3_; clear n0_ n1_ n2_ n3_; clear hb hbox hg) | ((with_reducible refine gate_dst (N := 3) rfl ?_); refine box_event ?hg (N := 3) ?hd (cs := #[.int .i64 a1_0, .int .i64 a1_1]) (t := 40) ?hr ?_; (case hd => rfl); (case hg => rfl); (case hr => first | (go_simp; done) | (go_simp; rfl)); intro gb105 hg w22 hbox hb; have n0_ := Aside0.mk (blk_below (g := gb104) (o := .cells #[.slice A0_0 l0_0.length c0_0, .slice A0_1 l0_1.length c0_1, .slice A0_2 l0_2.length c0_2, .slice A0_3 l0_3.length c0_3] 28 (0, 0)) (by (with_reducible repeat (first | refine blk_drewN ?_ _ | refine blk_drew ?_ | refine blk_alloc ?_ _)); exact BK104.out) hb); have n1_ := Aside0.mk (below_step (by repeat (first | (with_reducible first | exact HB.out | apply below_alloc | apply pw_below_drewN | apply below_drew1 | refine below_set ?_ GE104.out) | exact HB.out)) hb); have n2_ := Aside0.mk (hbox); have n3_ := Aside0.mk ((by rw [hg]; exact (below_size (by repeat (first | (with_reducible first | exact HB.out | apply below_alloc | apply pw_below_drewN | apply below_drew1 | refine below_set ?_ GE104.out) | exact HB.out))) : w.heap.size ≤ gb105)); have n4_ := Aside0.mk ((by rw [hg]; exact (below_size (by repeat (first | (with_reducible first | exact HB.out | apply below_alloc | apply pw_below_drewN | apply below_drew1 | refine below_set ?_ GE104.out) | exact HB.out))) : w.heap.size ≤ gb105)); have n5_ := Aside0.mk ((by rw [hg]; exact Nat.ne_of_lt (blk_lt (g := gb104) (o := .cells #[.slice A0_0 l0_0.length c0_0, .slice A0_1 l0_1.length c0_1, .slice A0_2 l0_2.length c0_2, .slice A0_3 l0_3.length c0_3] 28 (0, 0)) (by (with_reducible repeat (first | refine blk_drewN ?_ _ | refine blk_drew ?_ | refine blk_alloc ?_ _)); exact BK104.out)) : gb104 ≠ gb105)); have n6_ := Aside0.mk ((by rw [hg]; exact Nat.ne_of_gt (blk_lt (g := gb104) (o := .cells #[.slice A0_0 l0_0.length c0_0, .slice A0_1 l0_1.length c0_1, .slice A0_2 l0_2.length c0_2, .slice A0_3 l0_3.length c0_3] 28 (0, 0)) (by (with_reducible repeat (first | refine blk_drewN ?_ _ | refine blk_drew ?_ | refine blk_alloc ?_ _)); exact BK104.out)) : gb105 ≠ gb104)); clear BK104; clear HB; have BK104 := n0_; have HB := n1_; have BK105 := n2_; have GW105 := n3_; have GE105 := n4_; have NB104_105 := n5_; have NB105_104 := n6_; clear n0_ n1_ n2_ n3_ n4_ n5_ n6_; clear hb hbox hg; have hnb23 := NB105_104.out; have hnc23 := NB104_105.out; have hcz24_0 : w22.cell? ⟨gb105, 0, none⟩ = some (.int .i64 a1_0) := (blk_cell BK105.out 0).trans rfl; have hcz24_1 : w22.cell? ⟨gb105, 1, none⟩ = some (.int .i64 a1_1) := (blk_cell BK105.out 1).trans rfl; have hfz24_0 := blk_frozen BK105.out 0; have hfz24_1 := blk_frozen BK105.out 1; have hcz25_0 : w22.cell? ⟨gb104, 0, none⟩ = some (.slice A0_0 l0_0.length c0_0) := (blk_cell BK104.out 0).trans rfl; have hcz25_1 : w22.cell? ⟨gb104, 1, none⟩ = some (.slice A0_1 l0_1.length c0_1) := (blk_cell BK104.out 1).trans rfl; have hcz25_2 : w22.cell? ⟨gb104, 2, none⟩ = some (.slice A0_2 l0_2.length c0_2) := (blk_cell BK104.out 2).trans rfl; have hcz25_3 : w22.cell? ⟨gb104, 3, none⟩ = some (.slice A0_3 l0_3.length c0_3) := (blk_cell BK104.out 3).trans rfl; have hfz25_0 := blk_frozen BK104.out 0; have hfz25_1 := blk_frozen BK104.out 1; have hfz25_2 := blk_frozen BK104.out 2; have hfz25_3 := blk_frozen BK104.out 3) | ((with_reducible refine gate_callee (f := 26) rfl ?_); refine goesL_ (some 11) rfl rfl Try.func26 (by kernel_rfl) rfl #[.int .i64 a1_0, .int .i64 0, .int .i64 (wrap64 ((l0_2.length : Int) - 1))] rfl (by (try simp only [List.map_toArray, List.map_cons, List.map_nil]); first | done | rfl | (simp only [List.length_drop, List.length_take]; rfl)) ?_; (with_reducible refine (layout_within.calls a1_0 0 (wrap64 ((l0_2.length : Int) - 1)) true _ A3.out).mono ?_); rintro e w' ⟨rfl, ⟨nd, rfl⟩⟩; refine ⟨_, rfl, ?_⟩))
        go_ret
        exact ⟨by first | rfl | (simp [errW_none, errW_some] <;> rfl) | (simp [*, errW_none, errW_some] <;> rfl), by repeat (first | (with_reducible first | exact HB.out | apply below_alloc | apply pw_below_drewN | apply below_drew1 | refine below_set ?_ GE104.out | refine below_set ?_ GE105.out) | exact HB.out)⟩
  · replace c4 := Bool.eq_false_iff.mpr c4
    subst c4
    have H1 : (some false) = some r := by rw [if_neg (show ¬ (false = true) by decide)] at H; exact H
    clear H
    have H := H1
    clear H1
    obtain rfl := Option.some.inj H
    simp only [Option.some.injEq, Prod.mk.injEq] at H
    obtain ⟨rfl⟩ := H
    go_enter Try.func14, Try.ntmps14
    go_wp2_with (first | ((with_reducible refine gate_dst (N := 2) rfl ?_); refine box_event ?hg (N := 2) ?hd (cs := #[.slice A0_0 l0_0.length c0_0, .slice A0_1 l0_1.length c0_1, .slice A0_2 l0_2.length c0_2, .slice A0_3 l0_3.length c0_3]) (t := 28) ?hr ?_; (case hd => rfl); (case hg => rfl); (case hr => first | (go_simp; done) | (go_simp; rfl)); intro gb104 hg w26 hbox hb; have n0_ := Aside0.mk (below_step (by repeat (first | (with_reducible first | exact HB.out | apply below_alloc | apply pw_below_drewN | apply below_drew1) | exact HB.out)) hb); have n1_ := Aside0.mk (hbox); have n2_ := Aside0.mk ((by rw [hg]; exact (below_size (by repeat (first | (with_reducible first | exact HB.out | apply below_alloc | apply pw_below_drewN | apply below_drew1) | exact HB.out))) : w.heap.size ≤ gb104)); have n3_ := Aside0.mk ((by rw [hg]; exact (below_size (by repeat (first | (with_reducible first | exact HB.out | apply below_alloc | apply pw_below_drewN | apply below_drew1) | exact HB.out))) : w.heap.size ≤ gb104)); clear HB; have HB := n0_; have BK104 := n1_; have GW104 := n2_; have GE104 := n3_; clear n0_ n1_ n2_ n3_; clear hb hbox hg) | ((with_reducible refine gate_dst (N := 3) rfl ?_); refine box_event ?hg (N := 3) ?hd (cs := #[.int .i64 a1_0, .int .i64 a1_1]) (t := 40) ?hr ?_; (case hd => rfl); (case hg => rfl); (case hr => first | (go_simp; done) | (go_simp; rfl)); intro gb105 hg w27 hbox hb; have n0_ := Aside0.mk (blk_below (g := gb104) (o := .cells #[.slice A0_0 l0_0.length c0_0, .slice A0_1 l0_1.length c0_1, .slice A0_2 l0_2.length c0_2, .slice A0_3 l0_3.length c0_3] 28 (0, 0)) (by (with_reducible repeat (first | refine blk_drewN ?_ _ | refine blk_drew ?_ | refine blk_alloc ?_ _)); exact BK104.out) hb); have n1_ := Aside0.mk (below_step (by repeat (first | (with_reducible first | exact HB.out | apply below_alloc | apply pw_below_drewN | apply below_drew1 | refine below_set ?_ GE104.out) | exact HB.out)) hb); have n2_ := Aside0.mk (hbox); have n3_ := Aside0.mk ((by rw [hg]; exact (below_size (by repeat (first | (with_reducible first | exact HB.out | apply below_alloc | apply pw_below_drewN | apply below_drew1 | refine below_set ?_ GE104.out) | exact HB.out))) : w.heap.size ≤ gb105)); have n4_ := Aside0.mk ((by rw [hg]; exact (below_size (by repeat (first | (with_reducible first | exact HB.out | apply below_alloc | apply pw_below_drewN | apply below_drew1 | refine below_set ?_ GE104.out) | exact HB.out))) : w.heap.size ≤ gb105)); have n5_ := Aside0.mk ((by rw [hg]; exact Nat.ne_of_lt (blk_lt (g := gb104) (o := .cells #[.slice A0_0 l0_0.length c0_0, .slice A0_1 l0_1.length c0_1, .slice A0_2 l0_2.length c0_2, .slice A0_3 l0_3.length c0_3] 28 (0, 0)) (by (with_reducible repeat (first | refine blk_drewN ?_ _ | refine blk_drew ?_ | refine blk_alloc ?_ _)); exact BK104.out)) : gb104 ≠ gb105)); have n6_ := Aside0.mk ((by rw [hg]; exact Nat.ne_of_gt (blk_lt (g := gb104) (o := .cells #[.slice A0_0 l0_0.length c0_0, .slice A0_1 l0_1.length c0_1, .slice A0_2 l0_2.length c0_2, .slice A0_3 l0_3.length c0_3] 28 (0, 0)) (by (with_reducible repeat (first | refine blk_drewN ?_ _ | refine blk_drew ?_ | refine blk_alloc ?_ _)); exact BK104.out)) : gb105 ≠ gb104)); clear BK104; clear HB; have BK104 := n0_; have HB := n1_; have BK105 := n2_; have GW105 := n3_; have GE105 := n4_; have NB104_105 := n5_; have NB105_104 := n6_; clear n0_ n1_ n2_ n3_ n4_ n5_ n6_; clear hb hbox hg; have hnb28 := NB105_104.out; have hnc28 := NB104_105.out; have hcz29_0 : w27.cell? ⟨gb105, 0, none⟩ = some (.int .i64 a1_0) := (blk_cell BK105.out 0).trans rfl; have hcz29_1 : w27.cell? ⟨gb105, 1, none⟩ = some (.int .i64 a1_1) := (blk_cell BK105.out 1).trans rfl; have hfz29_0 := blk_frozen BK105.out 0; have hfz29_1 := blk_frozen BK105.out 1; have hcz30_0 : w27.cell? ⟨gb104, 0, none⟩ = some (.slice A0_0 l0_0.length c0_0) := (blk_cell BK104.out 0).trans rfl; have hcz30_1 : w27.cell? ⟨gb104, 1, none⟩ = some (.slice A0_1 l0_1.length c0_1) := (blk_cell BK104.out 1).trans rfl; have hcz30_2 : w27.cell? ⟨gb104, 2, none⟩ = some (.slice A0_2 l0_2.length c0_2) := (blk_cell BK104.out 2).trans rfl; have hcz30_3 : w27.cell? ⟨gb104, 3, none⟩ = some (.slice A0_3 l0_3.length c0_3) := (blk_cell BK104.out 3).trans rfl; have hfz30_0 := blk_frozen BK104.out 0; have hfz30_1 := blk_frozen BK104.out 1; have hfz30_2 := blk_frozen BK104.out 2; have hfz30_3 := blk_frozen BK104.out 3) | ((with_reducible refine gate_callee (f := 26) rfl ?_); refine goesL_ (some 11) rfl rfl Try.func26 (by kernel_rfl) rfl #[.int .i64 a1_0, .int .i64 0, .int .i64 (wrap64 ((l0_2.length : Int) - 1))] rfl (by (try simp only [List.map_toArray, List.map_cons, List.map_nil]); first | done | rfl | (simp only [List.length_drop, List.length_take]; rfl)) ?_; (with_reducible refine (layout_within.calls a1_0 0 (wrap64 ((l0_2.length : Int) - 1)) false _ A3.out).mono ?_); rintro e w' ⟨rfl, ⟨nd, rfl⟩⟩; refine ⟨_, rfl, ?_⟩))
    go_ret
    exact ⟨by first | rfl | (simp [errW_none, errW_some] <;> rfl) | (simp [*, errW_none, errW_some] <;> rfl), by repeat (first | (with_reducible first | exact HB.out | apply below_alloc | apply pw_below_drewN | apply below_drew1 | refine below_set ?_ GE104.out | refine below_set ?_ GE105.out) | exact HB.out)⟩

/-! ### railplanlaw4_awake: function 8 -/
def railplanlaw4_awake.f  : Option (Bool) := (some (([(⟨(⟨#[88]⟩ : ByteArray), 2, 1000, 0, (-1)⟩ : S31)] : List (S31)) : List (S31))).bind fun y109 => ((layout_Check.f ([] : List ByteArray) ([] : List ByteArray) y109 ([] : List (S61))).bind fun t113 => (if t113 = 0 then ((layout_Check.f ([] : List ByteArray) ([] : List ByteArray) ([] : List (S31)) ([] : List (S61))).bind fun t114 => (if t114 = 1 then ((layout_Has.f ([] : List ByteArray) ([] : List ByteArray) y109 ([] : List (S61)) 0 0).bind fun t115 => (some t115)) else (some false))) else (some false)))
set_option maxHeartbeats 8000000 in
set_option maxRecDepth 100000 in
theorem railplanlaw4_awake.calls  (r : Bool) (w : World) (h : railplanlaw4_awake.f  = some r) :
    Calls Try.prog 8 #[] w fun e w' => e = .returned (.bool r) ∧ Below w.heap.size w w' := by
  have hu31 := Try.underlying31
  have hu28 := Try.underlying28
  have hu40 := Try.underlying40
  have HB := Aside0.mk (Below.refl w.heap.size w)
  have H : ((some (([(⟨(⟨#[88]⟩ : ByteArray), 2, 1000, 0, (-1)⟩ : S31)] : List (S31)) : List (S31))).bind fun y109 => ((layout_Check.f ([] : List ByteArray) ([] : List ByteArray) y109 ([] : List (S61))).bind fun t113 => (if t113 = 0 then ((layout_Check.f ([] : List ByteArray) ([] : List ByteArray) ([] : List (S31)) ([] : List (S61))).bind fun t114 => (if t114 = 1 then ((layout_Has.f ([] : List ByteArray) ([] : List ByteArray) y109 ([] : List (S61)) 0 0).bind fun t115 => (some t115)) else (some false))) else (some false)))) = some r := h
  clear h
  obtain ⟨y109, hy109⟩ : ∃ y_ : List (S31), y_ = (([(⟨(⟨#[88]⟩ : ByteArray), 2, 1000, 0, (-1)⟩ : S31)] : List (S31))) := ⟨_, rfl⟩
  replace H : ((layout_Check.f ([] : List ByteArray) ([] : List ByteArray) y109 ([] : List (S61))).bind fun t113 => (if t113 = 0 then ((layout_Check.f ([] : List ByteArray) ([] : List ByteArray) ([] : List (S31)) ([] : List (S61))).bind fun t114 => (if t114 = 1 then ((layout_Has.f ([] : List ByteArray) ([] : List ByteArray) y109 ([] : List (S61)) 0 0).bind fun t115 => (some t115)) else (some false))) else (some false))) = some r := by first | (rw [hy109]; with_reducible exact H) | (have H2_ := (Option.bind_some _ _).symm.trans H; rw [hy109]; with_reducible exact H2_) | (have H2_ := (Option.bind_some _ _).symm.trans H; with_reducible exact H2_) | with_reducible exact H | (rw [hy109]; exact H) | exact H
  have Ny109 := Aside0.mk hy109
  clear hy109
  replace H := Option.bind_eq_some_iff.mp H
  obtain ⟨t113, A10, H⟩ := H
  replace H : (if t113 = 0 then ((layout_Check.f ([] : List ByteArray) ([] : List ByteArray) ([] : List (S31)) ([] : List (S61))).bind fun t114 => (if t114 = 1 then ((layout_Has.f ([] : List ByteArray) ([] : List ByteArray) y109 ([] : List (S61)) 0 0).bind fun t115 => (some t115)) else (some false))) else (some false)) = some r := H
  have A1 := Aside0.mk A10
  clear A10
  by_cases c2 : t113 = 0
  · rw [if_pos c2] at H
    have c2b0 : (t113 == 0) = true := beq_iff_eq.mpr c2
    have c2b1 : (t113 != 0) = false := bne_eq_false_iff_eq.mpr c2
    clear c2
    replace H := Option.bind_eq_some_iff.mp H
    obtain ⟨t114, A30, H⟩ := H
    replace H : (if t114 = 1 then ((layout_Has.f ([] : List ByteArray) ([] : List ByteArray) y109 ([] : List (S61)) 0 0).bind fun t115 => (some t115)) else (some false)) = some r := H
    have A3 := Aside0.mk A30
    clear A30
    by_cases c4 : t114 = 1
    · rw [if_pos c4] at H
      have c4b0 : (t114 == 1) = true := beq_iff_eq.mpr c4
      have c4b1 : (t114 != 1) = false := bne_eq_false_iff_eq.mpr c4
      clear c4
      replace H := Option.bind_eq_some_iff.mp H
      obtain ⟨t115, A50, H⟩ := H
      replace H : (some t115) = some r := H
      have A5 := Aside0.mk A50
      clear A50
      obtain rfl := Option.some.inj H
      simp only [Option.some.injEq, Prod.mk.injEq] at H
      obtain ⟨rfl⟩ := H
      go_enter Try.func8, Try.ntmps8
      go_wp2_with (first | ((with_reducible refine gate_dst (N := 3) rfl ?_); refine Kd.R_lit k31 _ 31 ?hg (N := 3) ?hd (xs := ([(⟨(⟨#[88]⟩ : ByteArray), 2, 1000, 0, (-1)⟩ : S31)] : List (S31))) (inner := [.string (⟨#[88]⟩ : ByteArray), .int .i64 2, .int .i64 1000, .int .i64 0, .int .i64 (-1)]) (ok := fun _ => True) (okp := fun _ => True) ?hr ?hp (fun _ hk => hk) trivial (Below.refl _ _) (Nat.le_refl _) (by simp) ?_; (case hd => rfl); (case hg => rfl); (case hr => first | (go_simp; done) | (go_simp; rfl)); (case hp => exact (Reps.c5 (show Kd.M k31 _ _ _ (⟨(⟨#[88]⟩ : ByteArray), 2, 1000, 0, (-1)⟩ : S31) [.string (⟨#[88]⟩ : ByteArray), .int .i64 2, .int .i64 1000, .int .i64 0, .int .i64 (-1)] from (k31_mkM _ _ _ (⟨(⟨#[88]⟩ : ByteArray), 2, 1000, 0, (-1)⟩ : S31) )) (Reps.none _ _))); intro v110 w6 ho7 hb hg_ hnew_; clear hg_ hnew_; (first | rw [← Ny109.out] at ho7 | (simp only [Int.reduceToNat] at ho7; rw [← Ny109.out] at ho7)); have n0_ := Aside0.mk (Kd.R_lower ho7 (below_size (by repeat (first | (with_reducible first | exact HB.out | apply below_alloc | apply pw_below_drewN | apply below_drew1) | exact HB.out)))); have n1_ := Aside0.mk (below_step (by repeat (first | (with_reducible first | exact HB.out | apply below_alloc | apply pw_below_drewN | apply below_drew1) | exact HB.out)) hb); clear HB; have HO111 := n0_; have HB := n1_; clear n0_ n1_; clear hb ho7; obtain ⟨Ao8, co8, eo8⟩ := Kd.R_slice HO111.out; subst eo8) | ((with_reducible refine gate_dst (N := 1) rfl ?_); refine box_event ?hg (N := 1) ?hd (cs := #[.slice none 0 0, .slice none 0 0, .slice none 0 0, .slice none 0 0]) (t := 28) ?hr ?_; (case hd => rfl); (case hg => rfl); (case hr => first | (go_simp; done) | (go_simp; rfl)); intro gb112 hg w9 hbox hb; have n0_ := Aside0.mk (Kd.R_below (by (with_reducible repeat (first | apply Kd.R_alloc | apply Kd.R_drewN | apply Kd.R_drew)); exact HO111.out) hb); have n1_ := Aside0.mk (below_step (by repeat (first | (with_reducible first | exact HB.out | apply below_alloc | apply pw_below_drewN | apply below_drew1) | exact HB.out)) hb); have n2_ := Aside0.mk (hbox); have n3_ := Aside0.mk ((by rw [hg]; exact (below_size (by repeat (first | (with_reducible first | exact HB.out | apply below_alloc | apply pw_below_drewN | apply below_drew1) | exact HB.out))) : w.heap.size ≤ gb112)); have n4_ := Aside0.mk ((by rw [hg]; exact (below_size (by repeat (first | (with_reducible first | exact HB.out | apply below_alloc | apply pw_below_drewN | apply below_drew1) | exact HB.out))) : w.heap.size ≤ gb112)); clear HO111; clear HB; have HO111 := n0_; have HB := n1_; have BK112 := n2_; have GW112 := n3_; have GE112 := n4_; clear n0_ n1_ n2_ n3_ n4_; clear hb hbox hg; have hcz10_0 : w9.cell? ⟨gb112, 0, none⟩ = some (.slice none 0 0) := (blk_cell BK112.out 0).trans rfl; have hcz10_1 : w9.cell? ⟨gb112, 1, none⟩ = some (.slice none 0 0) := (blk_cell BK112.out 1).trans rfl; have hcz10_2 : w9.cell? ⟨gb112, 2, none⟩ = some (.slice none 0 0) := (blk_cell BK112.out 2).trans rfl; have hcz10_3 : w9.cell? ⟨gb112, 3, none⟩ = some (.slice none 0 0) := (blk_cell BK112.out 3).trans rfl; have hfz10_0 := blk_frozen BK112.out 0; have hfz10_1 := blk_frozen BK112.out 1; have hfz10_2 := blk_frozen BK112.out 2; have hfz10_3 := blk_frozen BK112.out 3) | ((with_reducible refine gate_callee (f := 9) rfl ?_); refine goesL_ (some 6) rfl rfl Try.func9 (by kernel_rfl) rfl #[.agg #[.slice none 0 0, .slice none 0 0, .slice Ao8 y109.length co8, .slice none 0 0]] rfl (by (try simp only [List.map_toArray, List.map_cons, List.map_nil]); first | done | rfl | (simp only [List.length_drop, List.length_take]; rfl)) ?_; (refine (layout_Check.calls _ _ ([] : List ByteArray) _ _ ([] : List ByteArray) _ _ y109 _ _ ([] : List (S61)) t113 _ ?side1 ?side2 ?side3 ?side4 ?side5 ?side6 ?side7 ?side8 A1.out).mono ?_); (case side1 => exact Kd.C_nil _ _); (case side2 => exact Nat.le_refl _); (case side3 => exact Kd.C_nil _ _); (case side4 => exact Nat.le_refl _); (case side5 => refine (Kd.R_reads' (e := 31) (base := w.heap.size) (ok := fun k_ => True) (n := y109.length) (c := co8) ?_).2.2; exact (by (with_reducible repeat (first | apply Kd.R_alloc | apply Kd.R_drewN | apply Kd.R_drew)); exact (Kd.R_mono (Kd.R_far (p := ⟨gb112, 3, none⟩) (Kd.R_far (p := ⟨gb112, 2, none⟩) (Kd.R_far (p := ⟨gb112, 1, none⟩) (Kd.R_far (p := ⟨gb112, 0, none⟩) (Kd.R_types HO111.out BK112.out (by decide)) (fun _ hk => hk.2) (.slice none 0 0)) (fun _ hk => hk.2) (.slice none 0 0)) (fun _ hk => hk.2) (.slice Ao8 y109.length co8)) (fun _ hk => hk.2) (.slice none 0 0)) (fun _ h_ => h_.1)))); (case side6 => exact (Kd.R_reads' HO111.out).2.1); (case side7 => exact Kd.C_nil _ _); (case side8 => exact Nat.le_refl _); rintro e w11 ⟨rfl, hb⟩; refine ⟨_, rfl, ?_⟩; have n0_ := Aside0.mk (Kd.R_below (by (with_reducible repeat (first | apply Kd.R_alloc | apply Kd.R_drewN | apply Kd.R_drew)); exact (Kd.R_mono (Kd.R_far (p := ⟨gb112, 3, none⟩) (Kd.R_far (p := ⟨gb112, 2, none⟩) (Kd.R_far (p := ⟨gb112, 1, none⟩) (Kd.R_far (p := ⟨gb112, 0, none⟩) (Kd.R_types HO111.out BK112.out (by decide)) (fun _ hk => hk.2) (.slice none 0 0)) (fun _ hk => hk.2) (.slice none 0 0)) (fun _ hk => hk.2) (.slice Ao8 y109.length co8)) (fun _ hk => hk.2) (.slice none 0 0)) (fun _ h_ => h_.1))) hb); have n1_ := Aside0.mk (blk_below (g := gb112) (o := .cells #[.slice none 0 0, .slice none 0 0, .slice Ao8 y109.length co8, .slice none 0 0] 28 (0, 0)) (by (with_reducible repeat (first | refine blk_drewN ?_ _ | refine blk_drew ?_ | refine blk_alloc ?_ _)); refine blk_put (cs := #[.slice none 0 0, .slice none 0 0, .slice Ao8 y109.length co8, .slice none 0 0]) ?_ 3 _ rfl; (with_reducible repeat (first | refine blk_drewN ?_ _ | refine blk_drew ?_ | refine blk_alloc ?_ _)); refine blk_put (cs := #[.slice none 0 0, .slice none 0 0, .slice none 0 0, .slice none 0 0]) ?_ 2 _ rfl; (with_reducible repeat (first | refine blk_drewN ?_ _ | refine blk_drew ?_ | refine blk_alloc ?_ _)); refine blk_put (cs := #[.slice none 0 0, .slice none 0 0, .slice none 0 0, .slice none 0 0]) ?_ 1 _ rfl; (with_reducible repeat (first | refine blk_drewN ?_ _ | refine blk_drew ?_ | refine blk_alloc ?_ _)); refine blk_put (cs := #[.slice none 0 0, .slice none 0 0, .slice none 0 0, .slice none 0 0]) ?_ 0 _ rfl; (with_reducible repeat (first | refine blk_drewN ?_ _ | refine blk_drew ?_ | refine blk_alloc ?_ _)); exact BK112.out) hb); have n2_ := Aside0.mk (below_step (by repeat (first | (with_reducible first | exact HB.out | apply below_alloc | apply pw_below_drewN | apply below_drew1 | refine below_set ?_ GE112.out) | exact HB.out)) hb); clear HO111; clear BK112; clear HB; have HO111 := n0_; have BK112 := n1_; have HB := n2_; clear n0_ n1_ n2_; (try clear hb); (try clear hb2); (try clear hk); (try clear hi)) | (go_at_call 9; (refine (layout_Check.calls _ _ ([] : List ByteArray) _ _ ([] : List ByteArray) _ _ ([] : List (S31)) _ _ ([] : List (S61)) t114 _ ?side1 ?side2 ?side3 ?side4 ?side5 ?side6 ?side7 ?side8 A3.out).mono ?_); (case side1 => exact Kd.C_nil _ _); (case side2 => exact Nat.le_refl _); (case side3 => exact Kd.C_nil _ _); (case side4 => exact Nat.le_refl _); (case side5 => exact Kd.C_nil _ _); (case side6 => exact Nat.le_refl _); (case side7 => exact Kd.C_nil _ _); (case side8 => exact Nat.le_refl _); rintro e w12 ⟨rfl, hb⟩; have n0_ := Aside0.mk (Kd.R_below (by (with_reducible repeat (first | apply Kd.R_alloc | apply Kd.R_drewN | apply Kd.R_drew)); exact HO111.out) hb); have n1_ := Aside0.mk (blk_below (g := gb112) (o := .cells #[.slice none 0 0, .slice none 0 0, .slice Ao8 y109.length co8, .slice none 0 0] 28 (0, 0)) (by (with_reducible repeat (first | refine blk_drewN ?_ _ | refine blk_drew ?_ | refine blk_alloc ?_ _)); exact BK112.out) hb); have n2_ := Aside0.mk (below_step (by repeat (first | (with_reducible first | exact HB.out | apply below_alloc | apply pw_below_drewN | apply below_drew1 | refine below_set ?_ GE112.out) | exact HB.out)) hb); clear HO111; clear BK112; clear HB; have HO111 := n0_; have BK112 := n1_; have HB := n2_; clear n0_ n1_ n2_; (try clear hb); (try clear hb2); (try clear hk); (try clear hi); have hcz13_0 : w12.cell? ⟨gb112, 0, none⟩ = some (.slice none 0 0) := (blk_cell BK112.out 0).trans rfl; have hcz13_1 : w12.cell? ⟨gb112, 1, none⟩ = some (.slice none 0 0) := (blk_cell BK112.out 1).trans rfl; have hcz13_2 : w12.cell? ⟨gb112, 2, none⟩ = some (.slice Ao8 y109.length co8) := (blk_cell BK112.out 2).trans rfl; have hcz13_3 : w12.cell? ⟨gb112, 3, none⟩ = some (.slice none 0 0) := (blk_cell BK112.out 3).trans rfl; have hfz13_0 := blk_frozen BK112.out 0; have hfz13_1 := blk_frozen BK112.out 1; have hfz13_2 := blk_frozen BK112.out 2; have hfz13_3 := blk_frozen BK112.out 3) | (go_at_call 14; (refine (layout_Has.calls _ _ ([] : List ByteArray) _ _ ([] : List ByteArray) _ _ y109 _ _ ([] : List (S61)) 0 0 t115 _ ?side1 ?side2 ?side3 ?side4 ?side5 ?side6 ?side7 ?side8 A5.out).mono ?_); (case side1 => exact Kd.C_nil _ _); (case side2 => exact Nat.le_refl _); (case side3 => exact Kd.C_nil _ _); (case side4 => exact Nat.le_refl _); (case side5 => repeat (first | exact (Kd.R_reads' HO111.out).2.2 | (with_reducible refine Kd.C_alloc ?_ _) | (with_reducible refine Kd.C_drewN ?_ _) | (with_reducible refine Kd.C_drew ?_))); (case side6 => exact (Kd.R_reads' HO111.out).2.1); (case side7 => exact Kd.C_nil _ _); (case side8 => exact Nat.le_refl _); rintro e w14 ⟨rfl, hb⟩; have n0_ := Aside0.mk (Kd.R_below (by (with_reducible repeat (first | apply Kd.R_alloc | apply Kd.R_drewN | apply Kd.R_drew)); exact HO111.out) hb); have n1_ := Aside0.mk (blk_below (g := gb112) (o := .cells #[.slice none 0 0, .slice none 0 0, .slice Ao8 y109.length co8, .slice none 0 0] 28 (0, 0)) (by (with_reducible repeat (first | refine blk_drewN ?_ _ | refine blk_drew ?_ | refine blk_alloc ?_ _)); exact BK112.out) hb); have n2_ := Aside0.mk (below_step (by repeat (first | (with_reducible first | exact HB.out | apply below_alloc | apply pw_below_drewN | apply below_drew1 | refine below_set ?_ GE112.out) | exact HB.out)) hb); clear HO111; clear BK112; clear HB; have HO111 := n0_; have BK112 := n1_; have HB := n2_; clear n0_ n1_ n2_; (try clear hb); (try clear hb2); (try clear hk); (try clear hi)))
      go_ret
      exact ⟨by first | rfl | (simp [errW_none, errW_some] <;> rfl) | (simp [*, errW_none, errW_some] <;> rfl), by repeat (first | (with_reducible first | exact HB.out | apply below_alloc | apply pw_below_drewN | apply below_drew1 | refine below_set ?_ GE112.out) | exact HB.out)⟩
    · rw [if_neg c4] at H
      have c4b0 : (t114 == 1) = false := beq_eq_false_iff_ne.mpr c4
      have c4b1 : (t114 != 1) = true := bne_iff_ne.mpr c4
      obtain rfl := Option.some.inj H
      simp only [Option.some.injEq, Prod.mk.injEq] at H
      obtain ⟨rfl⟩ := H
      go_enter Try.func8, Try.ntmps8
      go_wp2_with (first | ((with_reducible refine gate_dst (N := 3) rfl ?_); refine Kd.R_lit k31 _ 31 ?hg (N := 3) ?hd (xs := ([(⟨(⟨#[88]⟩ : ByteArray), 2, 1000, 0, (-1)⟩ : S31)] : List (S31))) (inner := [.string (⟨#[88]⟩ : ByteArray), .int .i64 2, .int .i64 1000, .int .i64 0, .int .i64 (-1)]) (ok := fun _ => True) (okp := fun _ => True) ?hr ?hp (fun _ hk => hk) trivial (Below.refl _ _) (Nat.le_refl _) (by simp) ?_; (case hd => rfl); (case hg => rfl); (case hr => first | (go_simp; done) | (go_simp; rfl)); (case hp => exact (Reps.c5 (show Kd.M k31 _ _ _ (⟨(⟨#[88]⟩ : ByteArray), 2, 1000, 0, (-1)⟩ : S31) [.string (⟨#[88]⟩ : ByteArray), .int .i64 2, .int .i64 1000, .int .i64 0, .int .i64 (-1)] from (k31_mkM _ _ _ (⟨(⟨#[88]⟩ : ByteArray), 2, 1000, 0, (-1)⟩ : S31) )) (Reps.none _ _))); intro v110 w15 ho16 hb hg_ hnew_; clear hg_ hnew_; (first | rw [← Ny109.out] at ho16 | (simp only [Int.reduceToNat] at ho16; rw [← Ny109.out] at ho16)); have n0_ := Aside0.mk (Kd.R_lower ho16 (below_size (by repeat (first | (with_reducible first | exact HB.out | apply below_alloc | apply pw_below_drewN | apply below_drew1) | exact HB.out)))); have n1_ := Aside0.mk (below_step (by repeat (first | (with_reducible first | exact HB.out | apply below_alloc | apply pw_below_drewN | apply below_drew1) | exact HB.out)) hb); clear HB; have HO111 := n0_; have HB := n1_; clear n0_ n1_; clear hb ho16; obtain ⟨Ao17, co17, eo17⟩ := Kd.R_slice HO111.out; subst eo17) | ((with_reducible refine gate_dst (N := 1) rfl ?_); refine box_event ?hg (N := 1) ?hd (cs := #[.slice none 0 0, .slice none 0 0, .slice none 0 0, .slice none 0 0]) (t := 28) ?hr ?_; (case hd => rfl); (case hg => rfl); (case hr => first | (go_simp; done) | (go_simp; rfl)); intro gb112 hg w18 hbox hb; have n0_ := Aside0.mk (Kd.R_below (by (with_reducible repeat (first | apply Kd.R_alloc | apply Kd.R_drewN | apply Kd.R_drew)); exact HO111.out) hb); have n1_ := Aside0.mk (below_step (by repeat (first | (with_reducible first | exact HB.out | apply below_alloc | apply pw_below_drewN | apply below_drew1) | exact HB.out)) hb); have n2_ := Aside0.mk (hbox); have n3_ := Aside0.mk ((by rw [hg]; exact (below_size (by repeat (first | (with_reducible first | exact HB.out | apply below_alloc | apply pw_below_drewN | apply below_drew1) | exact HB.out))) : w.heap.size ≤ gb112)); have n4_ := Aside0.mk ((by rw [hg]; exact (below_size (by repeat (first | (with_reducible first | exact HB.out | apply below_alloc | apply pw_below_drewN | apply below_drew1) | exact HB.out))) : w.heap.size ≤ gb112)); clear HO111; clear HB; have HO111 := n0_; have HB := n1_; have BK112 := n2_; have GW112 := n3_; have GE112 := n4_; clear n0_ n1_ n2_ n3_ n4_; clear hb hbox hg; have hcz19_0 : w18.cell? ⟨gb112, 0, none⟩ = some (.slice none 0 0) := (blk_cell BK112.out 0).trans rfl; have hcz19_1 : w18.cell? ⟨gb112, 1, none⟩ = some (.slice none 0 0) := (blk_cell BK112.out 1).trans rfl; have hcz19_2 : w18.cell? ⟨gb112, 2, none⟩ = some (.slice none 0 0) := (blk_cell BK112.out 2).trans rfl; have hcz19_3 : w18.cell? ⟨gb112, 3, none⟩ = some (.slice none 0 0) := (blk_cell BK112.out 3).trans rfl; have hfz19_0 := blk_frozen BK112.out 0; have hfz19_1 := blk_frozen BK112.out 1; have hfz19_2 := blk_frozen BK112.out 2; have hfz19_3 := blk_frozen BK112.out 3) | ((with_reducible refine gate_callee (f := 9) rfl ?_); refine goesL_ (some 6) rfl rfl Try.func9 (by kernel_rfl) rfl #[.agg #[.slice none 0 0, .slice none 0 0, .slice Ao17 y109.length co17, .slice none 0 0]] rfl (by (try simp only [List.map_toArray, List.map_cons, List.map_nil]); first | done | rfl | (simp only [List.length_drop, List.length_take]; rfl)) ?_; (refine (layout_Check.calls _ _ ([] : List ByteArray) _ _ ([] : List ByteArray) _ _ y109 _ _ ([] : List (S61)) t113 _ ?side1 ?side2 ?side3 ?side4 ?side5 ?side6 ?side7 ?side8 A1.out).mono ?_); (case side1 => exact Kd.C_nil _ _); (case side2 => exact Nat.le_refl _); (case side3 => exact Kd.C_nil _ _); (case side4 => exact Nat.le_refl _); (case side5 => refine (Kd.R_reads' (e := 31) (base := w.heap.size) (ok := fun k_ => True) (n := y109.length) (c := co17) ?_).2.2; exact (by (with_reducible repeat (first | apply Kd.R_alloc | apply Kd.R_drewN | apply Kd.R_drew)); exact (Kd.R_mono (Kd.R_far (p := ⟨gb112, 3, none⟩) (Kd.R_far (p := ⟨gb112, 2, none⟩) (Kd.R_far (p := ⟨gb112, 1, none⟩) (Kd.R_far (p := ⟨gb112, 0, none⟩) (Kd.R_types HO111.out BK112.out (by decide)) (fun _ hk => hk.2) (.slice none 0 0)) (fun _ hk => hk.2) (.slice none 0 0)) (fun _ hk => hk.2) (.slice Ao17 y109.length co17)) (fun _ hk => hk.2) (.slice none 0 0)) (fun _ h_ => h_.1)))); (case side6 => exact (Kd.R_reads' HO111.out).2.1); (case side7 => exact Kd.C_nil _ _); (case side8 => exact Nat.le_refl _); rintro e w20 ⟨rfl, hb⟩; refine ⟨_, rfl, ?_⟩; have n0_ := Aside0.mk (Kd.R_below (by (with_reducible repeat (first | apply Kd.R_alloc | apply Kd.R_drewN | apply Kd.R_drew)); exact (Kd.R_mono (Kd.R_far (p := ⟨gb112, 3, none⟩) (Kd.R_far (p := ⟨gb112, 2, none⟩) (Kd.R_far (p := ⟨gb112, 1, none⟩) (Kd.R_far (p := ⟨gb112, 0, none⟩) (Kd.R_types HO111.out BK112.out (by decide)) (fun _ hk => hk.2) (.slice none 0 0)) (fun _ hk => hk.2) (.slice none 0 0)) (fun _ hk => hk.2) (.slice Ao17 y109.length co17)) (fun _ hk => hk.2) (.slice none 0 0)) (fun _ h_ => h_.1))) hb); have n1_ := Aside0.mk (blk_below (g := gb112) (o := .cells #[.slice none 0 0, .slice none 0 0, .slice Ao17 y109.length co17, .slice none 0 0] 28 (0, 0)) (by (with_reducible repeat (first | refine blk_drewN ?_ _ | refine blk_drew ?_ | refine blk_alloc ?_ _)); refine blk_put (cs := #[.slice none 0 0, .slice none 0 0, .slice Ao17 y109.length co17, .slice none 0 0]) ?_ 3 _ rfl; (with_reducible repeat (first | refine blk_drewN ?_ _ | refine blk_drew ?_ | refine blk_alloc ?_ _)); refine blk_put (cs := #[.slice none 0 0, .slice none 0 0, .slice none 0 0, .slice none 0 0]) ?_ 2 _ rfl; (with_reducible repeat (first | refine blk_drewN ?_ _ | refine blk_drew ?_ | refine blk_alloc ?_ _)); refine blk_put (cs := #[.slice none 0 0, .slice none 0 0, .slice none 0 0, .slice none 0 0]) ?_ 1 _ rfl; (with_reducible repeat (first | refine blk_drewN ?_ _ | refine blk_drew ?_ | refine blk_alloc ?_ _)); refine blk_put (cs := #[.slice none 0 0, .slice none 0 0, .slice none 0 0, .slice none 0 0]) ?_ 0 _ rfl; (with_reducible repeat (first | refine blk_drewN ?_ _ | refine blk_drew ?_ | refine blk_alloc ?_ _)); exact BK112.out) hb); have n2_ := Aside0.mk (below_step (by repeat (first | (with_reducible first | exact HB.out | apply below_alloc | apply pw_below_drewN | apply below_drew1 | refine below_set ?_ GE112.out) | exact HB.out)) hb); clear HO111; clear BK112; clear HB; have HO111 := n0_; have BK112 := n1_; have HB := n2_; clear n0_ n1_ n2_; (try clear hb); (try clear hb2); (try clear hk); (try clear hi)) | (go_at_call 9; (refine (layout_Check.calls _ _ ([] : List ByteArray) _ _ ([] : List ByteArray) _ _ ([] : List (S31)) _ _ ([] : List (S61)) t114 _ ?side1 ?side2 ?side3 ?side4 ?side5 ?side6 ?side7 ?side8 A3.out).mono ?_); (case side1 => exact Kd.C_nil _ _); (case side2 => exact Nat.le_refl _); (case side3 => exact Kd.C_nil _ _); (case side4 => exact Nat.le_refl _); (case side5 => exact Kd.C_nil _ _); (case side6 => exact Nat.le_refl _); (case side7 => exact Kd.C_nil _ _); (case side8 => exact Nat.le_refl _); rintro e w21 ⟨rfl, hb⟩; have n0_ := Aside0.mk (Kd.R_below (by (with_reducible repeat (first | apply Kd.R_alloc | apply Kd.R_drewN | apply Kd.R_drew)); exact HO111.out) hb); have n1_ := Aside0.mk (blk_below (g := gb112) (o := .cells #[.slice none 0 0, .slice none 0 0, .slice Ao17 y109.length co17, .slice none 0 0] 28 (0, 0)) (by (with_reducible repeat (first | refine blk_drewN ?_ _ | refine blk_drew ?_ | refine blk_alloc ?_ _)); exact BK112.out) hb); have n2_ := Aside0.mk (below_step (by repeat (first | (with_reducible first | exact HB.out | apply below_alloc | apply pw_below_drewN | apply below_drew1 | refine below_set ?_ GE112.out) | exact HB.out)) hb); clear HO111; clear BK112; clear HB; have HO111 := n0_; have BK112 := n1_; have HB := n2_; clear n0_ n1_ n2_; (try clear hb); (try clear hb2); (try clear hk); (try clear hi)))
      go_ret
      exact ⟨by first | rfl | (simp [errW_none, errW_some] <;> rfl) | (simp [*, errW_none, errW_some] <;> rfl), by repeat (first | (with_reducible first | exact HB.out | apply below_alloc | apply pw_below_drewN | apply below_drew1 | refine below_set ?_ GE112.out) | exact HB.out)⟩
  · rw [if_neg c2] at H
    have c2b0 : (t113 == 0) = false := beq_eq_false_iff_ne.mpr c2
    have c2b1 : (t113 != 0) = true := bne_iff_ne.mpr c2
    obtain rfl := Option.some.inj H
    simp only [Option.some.injEq, Prod.mk.injEq] at H
    obtain ⟨rfl⟩ := H
    go_enter Try.func8, Try.ntmps8
    go_wp2_with (first | ((with_reducible refine gate_dst (N := 3) rfl ?_); refine Kd.R_lit k31 _ 31 ?hg (N := 3) ?hd (xs := ([(⟨(⟨#[88]⟩ : ByteArray), 2, 1000, 0, (-1)⟩ : S31)] : List (S31))) (inner := [.string (⟨#[88]⟩ : ByteArray), .int .i64 2, .int .i64 1000, .int .i64 0, .int .i64 (-1)]) (ok := fun _ => True) (okp := fun _ => True) ?hr ?hp (fun _ hk => hk) trivial (Below.refl _ _) (Nat.le_refl _) (by simp) ?_; (case hd => rfl); (case hg => rfl); (case hr => first | (go_simp; done) | (go_simp; rfl)); (case hp => exact (Reps.c5 (show Kd.M k31 _ _ _ (⟨(⟨#[88]⟩ : ByteArray), 2, 1000, 0, (-1)⟩ : S31) [.string (⟨#[88]⟩ : ByteArray), .int .i64 2, .int .i64 1000, .int .i64 0, .int .i64 (-1)] from (k31_mkM _ _ _ (⟨(⟨#[88]⟩ : ByteArray), 2, 1000, 0, (-1)⟩ : S31) )) (Reps.none _ _))); intro v110 w22 ho23 hb hg_ hnew_; clear hg_ hnew_; (first | rw [← Ny109.out] at ho23 | (simp only [Int.reduceToNat] at ho23; rw [← Ny109.out] at ho23)); have n0_ := Aside0.mk (Kd.R_lower ho23 (below_size (by repeat (first | (with_reducible first | exact HB.out | apply below_alloc | apply pw_below_drewN | apply below_drew1) | exact HB.out)))); have n1_ := Aside0.mk (below_step (by repeat (first | (with_reducible first | exact HB.out | apply below_alloc | apply pw_below_drewN | apply below_drew1) | exact HB.out)) hb); clear HB; have HO111 := n0_; have HB := n1_; clear n0_ n1_; clear hb ho23; obtain ⟨Ao24, co24, eo24⟩ := Kd.R_slice HO111.out; subst eo24) | ((with_reducible refine gate_dst (N := 1) rfl ?_); refine box_event ?hg (N := 1) ?hd (cs := #[.slice none 0 0, .slice none 0 0, .slice none 0 0, .slice none 0 0]) (t := 28) ?hr ?_; (case hd => rfl); (case hg => rfl); (case hr => first | (go_simp; done) | (go_simp; rfl)); intro gb112 hg w25 hbox hb; have n0_ := Aside0.mk (Kd.R_below (by (with_reducible repeat (first | apply Kd.R_alloc | apply Kd.R_drewN | apply Kd.R_drew)); exact HO111.out) hb); have n1_ := Aside0.mk (below_step (by repeat (first | (with_reducible first | exact HB.out | apply below_alloc | apply pw_below_drewN | apply below_drew1) | exact HB.out)) hb); have n2_ := Aside0.mk (hbox); have n3_ := Aside0.mk ((by rw [hg]; exact (below_size (by repeat (first | (with_reducible first | exact HB.out | apply below_alloc | apply pw_below_drewN | apply below_drew1) | exact HB.out))) : w.heap.size ≤ gb112)); have n4_ := Aside0.mk ((by rw [hg]; exact (below_size (by repeat (first | (with_reducible first | exact HB.out | apply below_alloc | apply pw_below_drewN | apply below_drew1) | exact HB.out))) : w.heap.size ≤ gb112)); clear HO111; clear HB; have HO111 := n0_; have HB := n1_; have BK112 := n2_; have GW112 := n3_; have GE112 := n4_; clear n0_ n1_ n2_ n3_ n4_; clear hb hbox hg; have hcz26_0 : w25.cell? ⟨gb112, 0, none⟩ = some (.slice none 0 0) := (blk_cell BK112.out 0).trans rfl; have hcz26_1 : w25.cell? ⟨gb112, 1, none⟩ = some (.slice none 0 0) := (blk_cell BK112.out 1).trans rfl; have hcz26_2 : w25.cell? ⟨gb112, 2, none⟩ = some (.slice none 0 0) := (blk_cell BK112.out 2).trans rfl; have hcz26_3 : w25.cell? ⟨gb112, 3, none⟩ = some (.slice none 0 0) := (blk_cell BK112.out 3).trans rfl; have hfz26_0 := blk_frozen BK112.out 0; have hfz26_1 := blk_frozen BK112.out 1; have hfz26_2 := blk_frozen BK112.out 2; have hfz26_3 := blk_frozen BK112.out 3) | ((with_reducible refine gate_callee (f := 9) rfl ?_); refine goesL_ (some 6) rfl rfl Try.func9 (by kernel_rfl) rfl #[.agg #[.slice none 0 0, .slice none 0 0, .slice Ao24 y109.length co24, .slice none 0 0]] rfl (by (try simp only [List.map_toArray, List.map_cons, List.map_nil]); first | done | rfl | (simp only [List.length_drop, List.length_take]; rfl)) ?_; (refine (layout_Check.calls _ _ ([] : List ByteArray) _ _ ([] : List ByteArray) _ _ y109 _ _ ([] : List (S61)) t113 _ ?side1 ?side2 ?side3 ?side4 ?side5 ?side6 ?side7 ?side8 A1.out).mono ?_); (case side1 => exact Kd.C_nil _ _); (case side2 => exact Nat.le_refl _); (case side3 => exact Kd.C_nil _ _); (case side4 => exact Nat.le_refl _); (case side5 => refine (Kd.R_reads' (e := 31) (base := w.heap.size) (ok := fun k_ => True) (n := y109.length) (c := co24) ?_).2.2; exact (by (with_reducible repeat (first | apply Kd.R_alloc | apply Kd.R_drewN | apply Kd.R_drew)); exact (Kd.R_mono (Kd.R_far (p := ⟨gb112, 3, none⟩) (Kd.R_far (p := ⟨gb112, 2, none⟩) (Kd.R_far (p := ⟨gb112, 1, none⟩) (Kd.R_far (p := ⟨gb112, 0, none⟩) (Kd.R_types HO111.out BK112.out (by decide)) (fun _ hk => hk.2) (.slice none 0 0)) (fun _ hk => hk.2) (.slice none 0 0)) (fun _ hk => hk.2) (.slice Ao24 y109.length co24)) (fun _ hk => hk.2) (.slice none 0 0)) (fun _ h_ => h_.1)))); (case side6 => exact (Kd.R_reads' HO111.out).2.1); (case side7 => exact Kd.C_nil _ _); (case side8 => exact Nat.le_refl _); rintro e w27 ⟨rfl, hb⟩; refine ⟨_, rfl, ?_⟩; have n0_ := Aside0.mk (Kd.R_below (by (with_reducible repeat (first | apply Kd.R_alloc | apply Kd.R_drewN | apply Kd.R_drew)); exact (Kd.R_mono (Kd.R_far (p := ⟨gb112, 3, none⟩) (Kd.R_far (p := ⟨gb112, 2, none⟩) (Kd.R_far (p := ⟨gb112, 1, none⟩) (Kd.R_far (p := ⟨gb112, 0, none⟩) (Kd.R_types HO111.out BK112.out (by decide)) (fun _ hk => hk.2) (.slice none 0 0)) (fun _ hk => hk.2) (.slice none 0 0)) (fun _ hk => hk.2) (.slice Ao24 y109.length co24)) (fun _ hk => hk.2) (.slice none 0 0)) (fun _ h_ => h_.1))) hb); have n1_ := Aside0.mk (blk_below (g := gb112) (o := .cells #[.slice none 0 0, .slice none 0 0, .slice Ao24 y109.length co24, .slice none 0 0] 28 (0, 0)) (by (with_reducible repeat (first | refine blk_drewN ?_ _ | refine blk_drew ?_ | refine blk_alloc ?_ _)); refine blk_put (cs := #[.slice none 0 0, .slice none 0 0, .slice Ao24 y109.length co24, .slice none 0 0]) ?_ 3 _ rfl; (with_reducible repeat (first | refine blk_drewN ?_ _ | refine blk_drew ?_ | refine blk_alloc ?_ _)); refine blk_put (cs := #[.slice none 0 0, .slice none 0 0, .slice none 0 0, .slice none 0 0]) ?_ 2 _ rfl; (with_reducible repeat (first | refine blk_drewN ?_ _ | refine blk_drew ?_ | refine blk_alloc ?_ _)); refine blk_put (cs := #[.slice none 0 0, .slice none 0 0, .slice none 0 0, .slice none 0 0]) ?_ 1 _ rfl; (with_reducible repeat (first | refine blk_drewN ?_ _ | refine blk_drew ?_ | refine blk_alloc ?_ _)); refine blk_put (cs := #[.slice none 0 0, .slice none 0 0, .slice none 0 0, .slice none 0 0]) ?_ 0 _ rfl; (with_reducible repeat (first | refine blk_drewN ?_ _ | refine blk_drew ?_ | refine blk_alloc ?_ _)); exact BK112.out) hb); have n2_ := Aside0.mk (below_step (by repeat (first | (with_reducible first | exact HB.out | apply below_alloc | apply pw_below_drewN | apply below_drew1 | refine below_set ?_ GE112.out) | exact HB.out)) hb); clear HO111; clear BK112; clear HB; have HO111 := n0_; have BK112 := n1_; have HB := n2_; clear n0_ n1_ n2_; (try clear hb); (try clear hb2); (try clear hk); (try clear hi)))
    go_ret
    exact ⟨by first | rfl | (simp [errW_none, errW_some] <;> rfl) | (simp [*, errW_none, errW_some] <;> rfl), by repeat (first | (with_reducible first | exact HB.out | apply below_alloc | apply pw_below_drewN | apply below_drew1 | refine below_set ?_ GE112.out) | exact HB.out)⟩

/-! ### railplanlaw4_LayoutLimits: function 3 -/
def railplanlaw4_LayoutLimits.l0 : Nat → Int → Int → Int → Int → List ByteArray → List ByteArray → List (S31) → Option (Bool)
  | 0, _, _, _, _, _, _, _ => none
  | k + 1, x0, x5, x6, x8, x123000, x123001, x123002 => if x8 < x6 then ((railplanref1_Decimal.f k x8).bind fun t123 => (if 1 + t123.size ≤ 9223372036854775807 then ((railplankeep_Pick.f x0 3).bind fun t124 => (if t124 = 0 then (if x123000.length < 8796093022208 then (railplanlaw4_LayoutLimits.l0 k x0 x5 x6 (wrap64 (x8 + 1)) (x123000 ++ [(⟨#[97]⟩ : ByteArray) ++ t123]) x123001 x123002) else (none)) else (if t124 = 1 then (if x123001.length < 8796093022208 then (railplanlaw4_LayoutLimits.l0 k x0 x5 x6 (wrap64 (x8 + 1)) x123000 (x123001 ++ [(⟨#[97]⟩ : ByteArray) ++ t123]) x123002) else (none)) else (if x123002.length < 2932031007402 then (railplanlaw4_LayoutLimits.l0 k x0 x5 x6 (wrap64 (x8 + 1)) x123000 x123001 (x123002 ++ [(⟨(⟨#[97]⟩ : ByteArray) ++ t123, 1, 1000, 0, (-1)⟩ : S31)])) else (none))))) else (none))) else (if (x123002.length : Int) = 0 then ((some (([(⟨(⟨#[88]⟩ : ByteArray), 400, 100000, (-40), (-1)⟩ : S31)] : List (S31)) : List (S31))).bind fun y134 => ((railplanlaw4_awake.f).bind fun t137 => (if t137 = true then ((layout_Check.f x123000 x123001 y134 ([] : List (S61))).bind fun t138 => (if ((t138 == 0) == (decide (x6 ≤ x5))) = true then ((layout_Check.f x123000 x123001 y134 ([] : List (S61))).bind fun t139 => (some ((t139 == 7) == (decide (x6 > x5))))) else (some false))) else (some false)))) else ((railplanlaw4_awake.f).bind fun t140 => (if t140 = true then ((layout_Check.f x123000 x123001 x123002 ([] : List (S61))).bind fun t141 => (if ((t141 == 0) == (decide (x6 ≤ x5))) = true then ((layout_Check.f x123000 x123001 x123002 ([] : List (S61))).bind fun t142 => (some ((t142 == 7) == (decide (x6 > x5))))) else (some false))) else (some false))))
def railplanlaw4_LayoutLimits.f (k : Nat) (a0 : Int) (a1 : Int) : Option (Bool) := (some (([24, 48, 96] : List Int) : List Int)).bind fun y116 => ((railplankeep_Pick.f a0 3).bind fun t119 => (if 0 ≤ t119 then (if t119 < (y116.length : Int) then ((railplankeep_Pick.f a1 3).bind fun t121 => (railplanlaw4_LayoutLimits.l0 k a0 (rd y116 t119) (wrap64 ((wrap64 ((rd y116 t119) + t121)) - 1)) 0 ([] : List ByteArray) ([] : List ByteArray) ([] : List (S31)))) else (none)) else (none)))
theorem railplanlaw4_LayoutLimits.mono_l : ∀ k, (∀ y0 y1 y2 y3 y4 y5 y6, LeO (railplanlaw4_LayoutLimits.l0 k y0 y1 y2 y3 y4 y5 y6) (railplanlaw4_LayoutLimits.l0 (k + 1) y0 y1 y2 y3 y4 y5 y6))
  | 0 => fun _ _ _ _ _ _ _ r h => by simp [railplanlaw4_LayoutLimits.l0] at h
  | k + 1 => by
    have ih0 := railplanlaw4_LayoutLimits.mono_l k
    · intro y0 y1 y2 y3 y4 y5 y6
      unfold railplanlaw4_LayoutLimits.l0
      repeat' first
      | (with_reducible exact ih0 _ _ _ _ _ _ _)
      | (with_reducible exact railplanref1_Decimal.mono _ _)
      | (with_reducible exact LeO.refl _)
      | (with_reducible exact LeO.none _)
      | (with_reducible refine LeO.ite ?_ ?_)
      | (with_reducible refine LeO.bind ?_ (fun _ => ?_))
      | exact ih0 _ _ _ _ _ _ _
      | exact railplanref1_Decimal.mono _ _
      | exact LeO.none _
      | refine LeO.ite ?_ ?_
      | refine LeO.bind ?_ (fun _ => ?_)
theorem railplanlaw4_LayoutLimits.mono : ∀ a0 a1 k, LeO (railplanlaw4_LayoutLimits.f k a0 a1) (railplanlaw4_LayoutLimits.f (k + 1) a0 a1) := by
  intro a0 a1 k
  have ih0 := railplanlaw4_LayoutLimits.mono_l k
  unfold railplanlaw4_LayoutLimits.f
  repeat' first
      | (with_reducible exact ih0 _ _ _ _ _ _ _)
      | (with_reducible exact railplanref1_Decimal.mono _ _)
      | (with_reducible exact LeO.refl _)
      | (with_reducible exact LeO.none _)
      | (with_reducible refine LeO.ite ?_ ?_)
      | (with_reducible refine LeO.bind ?_ (fun _ => ?_))
      | exact ih0 _ _ _ _ _ _ _
      | exact railplanref1_Decimal.mono _ _
      | exact LeO.none _
      | refine LeO.ite ?_ ?_
      | refine LeO.bind ?_ (fun _ => ?_)
set_option maxHeartbeats 8000000 in
set_option maxRecDepth 100000 in
theorem railplanlaw4_LayoutLimits.calls (k : Nat) (a0 : Int) (a1 : Int) (r : Bool) (w : World) (hr_ : Aside0 (r = true)) (h : railplanlaw4_LayoutLimits.f k a0 a1 = some r) :
    Calls Try.prog 3 #[.int .i64 a0, .int .i64 a1] w fun e w' => e = .returned (.bool r) ∧ Below w.heap.size w w' := by
  have hu28 := Try.underlying28
  have hu31 := Try.underlying31
  have HB := Aside0.mk (Below.refl w.heap.size w)
  have H : ((some (([24, 48, 96] : List Int) : List Int)).bind fun y116 => ((railplankeep_Pick.f a0 3).bind fun t119 => (if 0 ≤ t119 then (if t119 < (y116.length : Int) then ((railplankeep_Pick.f a1 3).bind fun t121 => (railplanlaw4_LayoutLimits.l0 k a0 (rd y116 t119) (wrap64 ((wrap64 ((rd y116 t119) + t121)) - 1)) 0 ([] : List ByteArray) ([] : List ByteArray) ([] : List (S31)))) else (none)) else (none)))) = some r := h
  clear h
  obtain ⟨y116, hy116⟩ : ∃ y_ : List Int, y_ = (([24, 48, 96] : List Int)) := ⟨_, rfl⟩
  replace H : ((railplankeep_Pick.f a0 3).bind fun t119 => (if 0 ≤ t119 then (if t119 < (y116.length : Int) then ((railplankeep_Pick.f a1 3).bind fun t121 => (railplanlaw4_LayoutLimits.l0 k a0 (rd y116 t119) (wrap64 ((wrap64 ((rd y116 t119) + t121)) - 1)) 0 ([] : List ByteArray) ([] : List ByteArray) ([] : List (S31)))) else (none)) else (none))) = some r := by first | (rw [hy116]; with_reducible exact H) | (have H2_ := (Option.bind_some _ _).symm.trans H; rw [hy116]; with_reducible exact H2_) | (have H2_ := (Option.bind_some _ _).symm.trans H; with_reducible exact H2_) | with_reducible exact H | (rw [hy116]; exact H) | exact H
  have Ny116 := Aside0.mk hy116
  clear hy116
  replace H := Option.bind_eq_some_iff.mp H
  obtain ⟨t119, A30, H⟩ := H
  replace H : (if 0 ≤ t119 then (if t119 < (y116.length : Int) then ((railplankeep_Pick.f a1 3).bind fun t121 => (railplanlaw4_LayoutLimits.l0 k a0 (rd y116 t119) (wrap64 ((wrap64 ((rd y116 t119) + t121)) - 1)) 0 ([] : List ByteArray) ([] : List ByteArray) ([] : List (S31)))) else (none)) else (none)) = some r := H
  have A3 := Aside0.mk A30
  clear A30
  by_cases c4 : 0 ≤ t119
  · rw [if_pos c4] at H
    have c4b0 : decide (0 ≤ t119) = true := decide_eq_true c4
    clear c4
    by_cases c5 : t119 < (y116.length : Int)
    · rw [if_pos c5] at H
      have c5b0 : decide (t119 < (y116.length : Int)) = true := decide_eq_true c5
      clear c5
      replace H := Option.bind_eq_some_iff.mp H
      obtain ⟨t121, A60, H⟩ := H
      replace H : (railplanlaw4_LayoutLimits.l0 k a0 (rd y116 t119) (wrap64 ((wrap64 ((rd y116 t119) + t121)) - 1)) 0 ([] : List ByteArray) ([] : List ByteArray) ([] : List (S31))) = some r := H
      have A6 := Aside0.mk A60
      clear A60
      have H' := Aside0.mk H
      clear H
      go_enter Try.func3, Try.ntmps3
      go_wp2_with (first | ((with_reducible refine gate_dst (N := 10) rfl ?_); refine Kd.R_lit (Kd.int .i64) _ 3 ?hg (N := 10) ?hd (xs := ([24, 48, 96] : List Int)) (inner := [.int .i64 24, .int .i64 48, .int .i64 96]) (ok := fun _ => True) (okp := fun _ => True) ?hr ?hp (fun _ hk => hk) trivial (Below.refl _ _) (Nat.le_refl _) (by simp) ?_; (case hd => rfl); (case hg => rfl); (case hr => first | (go_simp; done) | (go_simp; rfl)); (case hp => exact (Reps.one (show Kd.M (Kd.int .i64) _ _ _ 24 [.int .i64 24] from rfl) (Reps.one (show Kd.M (Kd.int .i64) _ _ _ 48 [.int .i64 48] from rfl) (Reps.one (show Kd.M (Kd.int .i64) _ _ _ 96 [.int .i64 96] from rfl) (Reps.none _ _))))); intro v117 w7 ho8 hb hg_ hnew_; clear hg_ hnew_; (first | rw [← Ny116.out] at ho8 | (simp only [Int.reduceToNat] at ho8; rw [← Ny116.out] at ho8)); have n0_ := Aside0.mk (Kd.R_lower ho8 (below_size (by repeat (first | (with_reducible first | exact HB.out | apply below_alloc | apply pw_below_drewN | apply below_drew1) | exact HB.out)))); have n1_ := Aside0.mk (below_step (by repeat (first | (with_reducible first | exact HB.out | apply below_alloc | apply pw_below_drewN | apply below_drew1) | exact HB.out)) hb); clear HB; have HO118 := n0_; have HB := n1_; clear n0_ n1_; clear hb ho8) | ((with_reducible refine gate_callee (f := 6) rfl ?_); refine goesL_ (some 12) rfl rfl Try.func6 (by kernel_rfl) rfl #[.int .i64 a0, .int .i64 3] rfl (by (try simp only [List.map_toArray, List.map_cons, List.map_nil]); first | done | rfl | (simp only [List.length_drop, List.length_take]; rfl)) ?_; (with_reducible refine (railplankeep_Pick.calls a0 3 t119 _ A3.out).mono ?_); rintro e w' ⟨rfl, ⟨nd, rfl⟩⟩; refine ⟨_, rfl, ?_⟩; (try (rw [drewN_self w7]; generalize hq_ : World.drewN w7 _ = w7; have n0_ : Aside0 (Kd.R (Kd.int .i64) 3 w7 w.heap.size (fun _ => True) v117 y116) := ⟨by rw [← hq_]; exact (by (with_reducible repeat (first | apply Kd.R_alloc | apply Kd.R_drewN | apply Kd.R_drew)); exact HO118.out)⟩; have n1_ : Aside0 (Below w.heap.size w w7) := ⟨by rw [← hq_]; exact (by repeat (first | (with_reducible first | exact HB.out | apply below_alloc | apply pw_below_drewN | apply below_drew1) | exact HB.out))⟩; clear HO118 HB hq_; have HO118 := n0_; have HB := n1_; clear n0_ n1_)); obtain ⟨Ao9, co9, eo9⟩ := Kd.R_slice HO118.out; subst eo9; have p120 : 0 ≤ (t119 : Int) := of_decide_eq_true (by first | (with_reducible assumption) | assumption); have q120 : t119 < (y116.length : Int) := of_decide_eq_true (by first | (with_reducible assumption) | assumption); obtain ⟨ad120, e120, hx120_0⟩ := Kd.at_int (Kd.R_reads' HO118.out).2.2 t119 p120 q120; cases e120; replace p120 := eq_true p120; replace q120 := eq_true q120) | ((with_reducible refine gate_callee (f := 6) rfl ?_); refine goesL_ (some 17) rfl rfl Try.func6 (by kernel_rfl) rfl #[.int .i64 a1, .int .i64 3] rfl (by (try simp only [List.map_toArray, List.map_cons, List.map_nil]); first | done | rfl | (simp only [List.length_drop, List.length_take]; rfl)) ?_; (with_reducible refine (railplankeep_Pick.calls a1 3 t121 _ A6.out).mono ?_); rintro e w' ⟨rfl, ⟨nd, rfl⟩⟩; refine ⟨_, rfl, ?_⟩; (try (rw [drewN_self w7]; generalize hq_ : World.drewN w7 _ = w7; have n0_ : Aside0 (Kd.R (Kd.int .i64) 3 w7 w.heap.size (fun _ => True) (.slice (some ad120) y116.length co9) y116) := ⟨by rw [← hq_]; exact (by (with_reducible repeat (first | apply Kd.R_alloc | apply Kd.R_drewN | apply Kd.R_drew)); exact HO118.out)⟩; have n1_ : Aside0 (Below w.heap.size w w7) := ⟨by rw [← hq_]; exact (by repeat (first | (with_reducible first | exact HB.out | apply below_alloc | apply pw_below_drewN | apply below_drew1) | exact HB.out))⟩; clear HO118 HB hq_; have HO118 := n0_; have HB := n1_; clear n0_ n1_))) | ((with_reducible refine gate_dst (N := 7) rfl ?_); refine box_event ?hg (N := 7) ?hd (cs := #[.slice none 0 0, .slice none 0 0, .slice none 0 0, .slice none 0 0]) (t := 28) ?hr ?_; (case hd => rfl); (case hg => rfl); (case hr => first | (go_simp; done) | (go_simp; rfl)); intro gb122 hg w10 hbox hb; have n0_ := Aside0.mk (Kd.R_below (by (with_reducible repeat (first | apply Kd.R_alloc | apply Kd.R_drewN | apply Kd.R_drew)); exact HO118.out) hb); have n1_ := Aside0.mk (below_step (by repeat (first | (with_reducible first | exact HB.out | apply below_alloc | apply pw_below_drewN | apply below_drew1) | exact HB.out)) hb); have n2_ := Aside0.mk (hbox); have n3_ := Aside0.mk ((by rw [hg]; exact (below_size (by repeat (first | (with_reducible first | exact HB.out | apply below_alloc | apply pw_below_drewN | apply below_drew1) | exact HB.out))) : w.heap.size ≤ gb122)); have n4_ := Aside0.mk ((by rw [hg]; exact (below_size (by repeat (first | (with_reducible first | exact HB.out | apply below_alloc | apply pw_below_drewN | apply below_drew1) | exact HB.out))) : w.heap.size ≤ gb122)); clear HO118; clear HB; have HO118 := n0_; have HB := n1_; have BK122 := n2_; have GW122 := n3_; have GE122 := n4_; clear n0_ n1_ n2_ n3_ n4_; clear hb hbox hg; have hcz11_0 : w10.cell? ⟨gb122, 0, none⟩ = some (.slice none 0 0) := (blk_cell BK122.out 0).trans rfl; have hcz11_1 : w10.cell? ⟨gb122, 1, none⟩ = some (.slice none 0 0) := (blk_cell BK122.out 1).trans rfl; have hcz11_2 : w10.cell? ⟨gb122, 2, none⟩ = some (.slice none 0 0) := (blk_cell BK122.out 2).trans rfl; have hcz11_3 : w10.cell? ⟨gb122, 3, none⟩ = some (.slice none 0 0) := (blk_cell BK122.out 3).trans rfl; have hfz11_0 := blk_frozen BK122.out 0; have hfz11_1 := blk_frozen BK122.out 1; have hfz11_2 := blk_frozen BK122.out 2; have hfz11_3 := blk_frozen BK122.out 3))
      go_loopg [8] k (fun kq v8 w' => ∃ (x8_1 : Int) (x123000_1 : List ByteArray) (x123001_1 : List ByteArray) (x123002_1 : List (S31)) (u123000 : Value) (u123001 : Value) (u123002 : Value), v8 = .int .i64 x8_1 ∧ Aside0 (railplanlaw4_LayoutLimits.l0 kq a0 (rd y116 t119) (wrap64 ((wrap64 ((rd y116 t119) + t121)) - 1)) x8_1 x123000_1 x123001_1 x123002_1 = some r) ∧ Aside0 (kq ≤ k) ∧ Aside0 (Kd.R Kd.string 9 w' w.heap.size (fun k_ => some k_ ≠ (u123001 : Value).ownBlock) u123000 x123000_1) ∧ Aside0 (Kd.R Kd.string 9 w' w.heap.size (fun k_ => some k_ ≠ (u123000 : Value).ownBlock) u123001 x123001_1) ∧ Aside0 (Kd.R k31 31 w' w.heap.size (fun _ => True) u123002 x123002_1) ∧ Aside0 (w'.heap[gb122]? = some (.cells #[u123000, u123001, u123002, (.slice none 0 0)] 28 (0, 0))) ∧ Aside0 (Below w.heap.size w w'))
      case atStart => exact ⟨(0), (([] : List ByteArray)), (([] : List ByteArray)), (([] : List (S31))), (.slice none 0 0), (.slice none 0 0), (.slice none 0 0), (by first | rfl | (simp; done) | (simp [*]; done)), H', ⟨Nat.le_refl _⟩, ⟨by first | exact Kd.R_nil _ _ _ _ _ | exact Kd.N_nil _ _ _ _ _ | exact Kd.V_nil _ _ _ _ _ | exact Kd.Q_nil _ _ _ _ _ | exact Kd.S_nil _ _ _ _ _⟩, ⟨by first | exact Kd.R_nil _ _ _ _ _ | exact Kd.N_nil _ _ _ _ _ | exact Kd.V_nil _ _ _ _ _ | exact Kd.Q_nil _ _ _ _ _ | exact Kd.S_nil _ _ _ _ _⟩, ⟨by first | exact Kd.R_nil _ _ _ _ _ | exact Kd.N_nil _ _ _ _ _ | exact Kd.V_nil _ _ _ _ _ | exact Kd.Q_nil _ _ _ _ _ | exact Kd.S_nil _ _ _ _ _⟩, ⟨by (with_reducible repeat (first | refine blk_drewN ?_ _ | refine blk_drew ?_ | refine blk_alloc ?_ _)); refine blk_put (cs := #[.slice none 0 0, .slice none 0 0, .slice none 0 0, .slice none 0 0]) ?_ 3 _ rfl; (with_reducible repeat (first | refine blk_drewN ?_ _ | refine blk_drew ?_ | refine blk_alloc ?_ _)); refine blk_put (cs := #[.slice none 0 0, .slice none 0 0, .slice none 0 0, .slice none 0 0]) ?_ 2 _ rfl; (with_reducible repeat (first | refine blk_drewN ?_ _ | refine blk_drew ?_ | refine blk_alloc ?_ _)); refine blk_put (cs := #[.slice none 0 0, .slice none 0 0, .slice none 0 0, .slice none 0 0]) ?_ 1 _ rfl; (with_reducible repeat (first | refine blk_drewN ?_ _ | refine blk_drew ?_ | refine blk_alloc ?_ _)); refine blk_put (cs := #[.slice none 0 0, .slice none 0 0, .slice none 0 0, .slice none 0 0]) ?_ 0 _ rfl; (with_reducible repeat (first | refine blk_drewN ?_ _ | refine blk_drew ?_ | refine blk_alloc ?_ _)); exact BK122.out⟩, ⟨by repeat (first | (with_reducible first | exact HB.out | apply below_alloc | apply pw_below_drewN | apply below_drew1 | refine below_set ?_ GE122.out) | exact HB.out)⟩⟩
      case round =>
        clear H'
        try clear p1
        try clear q1
        try clear hx1
        try clear p2
        try clear c3
        try clear c4
        try clear c4b0
        try clear c5
        try clear c5b0
        try clear c6
        try clear p6
        try clear hcz11_0
        try clear hcz11_1
        try clear hcz11_2
        try clear hcz11_3
        try clear hfz11_0
        try clear hfz11_1
        try clear hfz11_2
        try clear hfz11_3
        try clear hx120_0
        try clear p120
        try clear q120
        obtain ⟨x8_1, x123000_1, x123001_1, x123002_1, u123000, u123001, u123002, rfl, HA, HK1, HO_123000, HO_123001, HO_123002, BK122, HB⟩ := hrel
        cases gk with
        | zero => exact absurd HA.out (by simp [railplanlaw4_LayoutLimits.l0])
        | succ k1 =>
          have H := HA.out
          clear HA
          simp only [railplanlaw4_LayoutLimits.l0] at H
          by_cases c12 : x8_1 < (wrap64 ((wrap64 ((rd y116 t119) + t121)) - 1))
          · rw [if_pos c12] at H
            have c12b0 : decide (x8_1 < (wrap64 ((wrap64 ((rd y116 t119) + t121)) - 1))) = true := decide_eq_true c12
            clear c12
            replace H := Option.bind_eq_some_iff.mp H
            obtain ⟨t123, A130, H⟩ := H
            replace H : (if 1 + t123.size ≤ 9223372036854775807 then ((railplankeep_Pick.f a0 3).bind fun t124 => (if t124 = 0 then (if x123000_1.length < 8796093022208 then (railplanlaw4_LayoutLimits.l0 k1 a0 (rd y116 t119) (wrap64 ((wrap64 ((rd y116 t119) + t121)) - 1)) (wrap64 (x8_1 + 1)) (x123000_1 ++ [(⟨#[97]⟩ : ByteArray) ++ t123]) x123001_1 x123002_1) else (none)) else (if t124 = 1 then (if x123001_1.length < 8796093022208 then (railplanlaw4_LayoutLimits.l0 k1 a0 (rd y116 t119) (wrap64 ((wrap64 ((rd y116 t119) + t121)) - 1)) (wrap64 (x8_1 + 1)) x123000_1 (x123001_1 ++ [(⟨#[97]⟩ : ByteArray) ++ t123]) x123002_1) else (none)) else (if x123002_1.length < 2932031007402 then (railplanlaw4_LayoutLimits.l0 k1 a0 (rd y116 t119) (wrap64 ((wrap64 ((rd y116 t119) + t121)) - 1)) (wrap64 (x8_1 + 1)) x123000_1 x123001_1 (x123002_1 ++ [(⟨(⟨#[97]⟩ : ByteArray) ++ t123, 1, 1000, 0, (-1)⟩ : S31)])) else (none))))) else (none)) = some r := H
            have A13 := Aside0.mk A130
            clear A130
            by_cases c14 : 1 + t123.size ≤ 9223372036854775807
            · rw [if_pos c14] at H
              have c14b0 := eq_true c14
              have c14b1 : decide (1 + t123.size ≤ 9223372036854775807) = true := decide_eq_true c14
              try have c14b2 : (9223372036854775807 < 1 + t123.size) = False := eq_false (Nat.not_lt.2 c14)
              replace H := Option.bind_eq_some_iff.mp H
              obtain ⟨t124, A150, H⟩ := H
              replace H : (if t124 = 0 then (if x123000_1.length < 8796093022208 then (railplanlaw4_LayoutLimits.l0 k1 a0 (rd y116 t119) (wrap64 ((wrap64 ((rd y116 t119) + t121)) - 1)) (wrap64 (x8_1 + 1)) (x123000_1 ++ [(⟨#[97]⟩ : ByteArray) ++ t123]) x123001_1 x123002_1) else (none)) else (if t124 = 1 then (if x123001_1.length < 8796093022208 then (railplanlaw4_LayoutLimits.l0 k1 a0 (rd y116 t119) (wrap64 ((wrap64 ((rd y116 t119) + t121)) - 1)) (wrap64 (x8_1 + 1)) x123000_1 (x123001_1 ++ [(⟨#[97]⟩ : ByteArray) ++ t123]) x123002_1) else (none)) else (if x123002_1.length < 2932031007402 then (railplanlaw4_LayoutLimits.l0 k1 a0 (rd y116 t119) (wrap64 ((wrap64 ((rd y116 t119) + t121)) - 1)) (wrap64 (x8_1 + 1)) x123000_1 x123001_1 (x123002_1 ++ [(⟨(⟨#[97]⟩ : ByteArray) ++ t123, 1, 1000, 0, (-1)⟩ : S31)])) else (none)))) = some r := H
              have A15 := Aside0.mk A150
              clear A150
              by_cases c16 : t124 = 0
              · rw [if_pos c16] at H
                have c16b0 : (t124 == 0) = true := beq_iff_eq.mpr c16
                have c16b1 : (t124 != 0) = false := bne_eq_false_iff_eq.mpr c16
                clear c16
                by_cases c17 : x123000_1.length < 8796093022208
                · rw [if_pos c17] at H
                  have LMc17 := Aside0.mk c17
                  clear c17
                  obtain ⟨y125, hy125⟩ : ∃ y_ : List ByteArray, y_ = (x123000_1 ++ [(⟨#[97]⟩ : ByteArray) ++ t123]) := ⟨_, rfl⟩
                  replace H : (railplanlaw4_LayoutLimits.l0 k1 a0 (rd y116 t119) (wrap64 ((wrap64 ((rd y116 t119) + t121)) - 1)) (wrap64 (x8_1 + 1)) y125 x123001_1 x123002_1) = some r := by first | (rw [hy125]; with_reducible exact H) | (have H2_ := (Option.bind_some _ _).symm.trans H; rw [hy125]; with_reducible exact H2_) | (have H2_ := (Option.bind_some _ _).symm.trans H; with_reducible exact H2_) | with_reducible exact H | (rw [hy125]; exact H) | exact H
                  have Ny125 := Aside0.mk hy125
                  clear hy125
                  have H' := Aside0.mk H
                  clear H
                  go_wp2_with (first | ((with_reducible refine gate_callee (f := 7) rfl ?_); refine goesL_ (some 27) rfl rfl Try.func7 (by kernel_rfl) rfl #[.int .i64 x8_1] rfl (by (try simp only [List.map_toArray, List.map_cons, List.map_nil]); first | done | rfl | (simp only [List.length_drop, List.length_take]; rfl)) ?_; (with_reducible refine (railplanref1_Decimal.calls k1 x8_1 t123 _ A13.out).mono ?_); rintro e w' ⟨rfl, ⟨nd, rfl⟩⟩; refine ⟨_, rfl, ?_⟩; (try (rw [drewN_self wr]; generalize hq_ : World.drewN wr _ = wr; have n0_ : Aside0 (Kd.R Kd.string 9 wr w.heap.size (fun k_ => some k_ ≠ (u123001 : Value).ownBlock) u123000 x123000_1) := ⟨by rw [← hq_]; exact (by (with_reducible repeat (first | apply Kd.R_alloc | apply Kd.R_drewN | apply Kd.R_drew)); exact HO_123000.out)⟩; have n1_ : Aside0 (Kd.R Kd.string 9 wr w.heap.size (fun k_ => some k_ ≠ (u123000 : Value).ownBlock) u123001 x123001_1) := ⟨by rw [← hq_]; exact (by (with_reducible repeat (first | apply Kd.R_alloc | apply Kd.R_drewN | apply Kd.R_drew)); exact HO_123001.out)⟩; have n2_ : Aside0 (Kd.R k31 31 wr w.heap.size (fun _ => True) u123002 x123002_1) := ⟨by rw [← hq_]; exact (by (with_reducible repeat (first | apply Kd.R_alloc | apply Kd.R_drewN | apply Kd.R_drew)); exact HO_123002.out)⟩; have n3_ : Aside0 (wr.heap[gb122]? = some (.cells #[u123000, u123001, u123002, .slice none 0 0] 28 (0, 0))) := ⟨by rw [← hq_]; exact (by (with_reducible repeat (first | refine blk_drewN ?_ _ | refine blk_drew ?_ | refine blk_alloc ?_ _)); exact BK122.out)⟩; have n4_ : Aside0 (Below w.heap.size w wr) := ⟨by rw [← hq_]; exact (by repeat (first | (with_reducible first | exact HB.out | apply below_alloc | apply pw_below_drewN | apply below_drew1 | refine below_set ?_ GE122.out) | exact HB.out))⟩; clear HO_123000 HO_123001 HO_123002 BK122 HB hq_; have HO_123000 := n0_; have HO_123001 := n1_; have HO_123002 := n2_; have BK122 := n3_; have HB := n4_; clear n0_ n1_ n2_ n3_ n4_))) | ((with_reducible refine gate_callee (f := 6) rfl ?_); refine goesL_ (some 30) rfl rfl Try.func6 (by kernel_rfl) rfl #[.int .i64 a0, .int .i64 3] rfl (by (try simp only [List.map_toArray, List.map_cons, List.map_nil]); first | done | rfl | (simp only [List.length_drop, List.length_take]; rfl)) ?_; (with_reducible refine (railplankeep_Pick.calls a0 3 t124 _ A15.out).mono ?_); rintro e w' ⟨rfl, ⟨nd, rfl⟩⟩; refine ⟨_, rfl, ?_⟩; (try (rw [drewN_self wr]; generalize hq_ : World.drewN wr _ = wr; have n0_ : Aside0 (Kd.R Kd.string 9 wr w.heap.size (fun k_ => some k_ ≠ (u123001 : Value).ownBlock) u123000 x123000_1) := ⟨by rw [← hq_]; exact (by (with_reducible repeat (first | apply Kd.R_alloc | apply Kd.R_drewN | apply Kd.R_drew)); exact HO_123000.out)⟩; have n1_ : Aside0 (Kd.R Kd.string 9 wr w.heap.size (fun k_ => some k_ ≠ (u123000 : Value).ownBlock) u123001 x123001_1) := ⟨by rw [← hq_]; exact (by (with_reducible repeat (first | apply Kd.R_alloc | apply Kd.R_drewN | apply Kd.R_drew)); exact HO_123001.out)⟩; have n2_ : Aside0 (Kd.R k31 31 wr w.heap.size (fun _ => True) u123002 x123002_1) := ⟨by rw [← hq_]; exact (by (with_reducible repeat (first | apply Kd.R_alloc | apply Kd.R_drewN | apply Kd.R_drew)); exact HO_123002.out)⟩; have n3_ : Aside0 (wr.heap[gb122]? = some (.cells #[u123000, u123001, u123002, .slice none 0 0] 28 (0, 0))) := ⟨by rw [← hq_]; exact (by (with_reducible repeat (first | refine blk_drewN ?_ _ | refine blk_drew ?_ | refine blk_alloc ?_ _)); exact BK122.out)⟩; have n4_ : Aside0 (Below w.heap.size w wr) := ⟨by rw [← hq_]; exact (by repeat (first | (with_reducible first | exact HB.out | apply below_alloc | apply pw_below_drewN | apply below_drew1 | refine below_set ?_ GE122.out) | exact HB.out))⟩; clear HO_123000 HO_123001 HO_123002 BK122 HB hq_; have HO_123000 := n0_; have HO_123001 := n1_; have HO_123002 := n2_; have BK122 := n3_; have HB := n4_; clear n0_ n1_ n2_ n3_ n4_)); have hcz18_0 : wr.cell? ⟨gb122, 0, none⟩ = some (u123000) := (blk_cell BK122.out 0).trans rfl; have hcz18_1 : wr.cell? ⟨gb122, 1, none⟩ = some (u123001) := (blk_cell BK122.out 1).trans rfl; have hcz18_2 : wr.cell? ⟨gb122, 2, none⟩ = some (u123002) := (blk_cell BK122.out 2).trans rfl; have hcz18_3 : wr.cell? ⟨gb122, 3, none⟩ = some (.slice none 0 0) := (blk_cell BK122.out 3).trans rfl; have hfz18_0 := blk_frozen BK122.out 0; have hfz18_1 := blk_frozen BK122.out 1; have hfz18_2 := blk_frozen BK122.out 2; have hfz18_3 := blk_frozen BK122.out 3) | ((with_reducible refine gate_builtin (b := .append) (xs := #[.tmp 41, .tmp 43]) rfl ?_); at_builtin; refine Kd.R_append Kd.string (w0 := w) w.heap.size rfl (.tmp 41) (.tmp 43) 24 9 (.string ⟨#[]⟩) 16 rfl Try.underlying24 info9 rfl (by decide) (by omega) u123000 x123000_1 ((⟨#[97]⟩ : ByteArray) ++ t123) [.string ((⟨#[97]⟩ : ByteArray) ++ t123)] (fun k_ => some k_ ≠ (u123001 : Value).ownBlock) (fun _ => False) rfl rfl ?aP (fun _ hk => hk.elim) ?aF ?aO ?aB ?aS ?aL ?_; (case aP => exact rfl); (case aB => exact (by repeat (first | (with_reducible first | exact HB.out | apply below_alloc | apply pw_below_drewN | apply below_drew1 | refine below_set ?_ GE122.out) | exact HB.out))); (case aF => exact (fun k_ hk => Kd.fresh' (Kd.R_lt (by (with_reducible repeat (first | apply Kd.R_alloc | apply Kd.R_drewN | apply Kd.R_drew)); exact HO_123001.out)) k_ hk)); (case aO => exact (by (with_reducible repeat (first | apply Kd.R_alloc | apply Kd.R_drewN | apply Kd.R_drew)); exact HO_123000.out)); (case aS => exact (below_size (by repeat (first | (with_reducible first | exact HB.out | apply below_alloc | apply pw_below_drewN | apply below_drew1 | refine below_set ?_ GE122.out) | exact HB.out)))); (case aL => have := LMc17.out; omega); intro v126 w19 ho hb hg hat; rw [← Ny125.out] at ho; have n0_ := Aside0.mk (Kd.R_after (ok := (fun _ => True)) (by (with_reducible repeat (first | apply Kd.R_alloc | apply Kd.R_drewN | apply Kd.R_drew)); exact Kd.R_mono HO_123001.out (fun _ hk => ⟨trivial, hk⟩)) hg hat); have n1_ := Aside0.mk (Kd.R_over' (by (with_reducible repeat (first | apply Kd.R_alloc | apply Kd.R_drewN | apply Kd.R_drew)); exact HO_123002.out) (Kd.R_typed (by (with_reducible repeat (first | apply Kd.R_alloc | apply Kd.R_drewN | apply Kd.R_drew)); exact HO_123000.out)) (by decide) hg); have n2_ := Aside0.mk (blk_grown (g := gb122) (o := .cells #[u123000, u123001, u123002, .slice none 0 0] 28 (0, 0)) (by (with_reducible repeat (first | refine blk_drewN ?_ _ | refine blk_drew ?_ | refine blk_alloc ?_ _)); exact BK122.out) hg (Kd.R_ne HO_123000.out BK122.out (by decide))); have n3_ := Aside0.mk (hb); have n4_ := Aside0.mk (ho); clear HO_123001; clear HO_123002; clear BK122; clear HB; clear HO_123000; have HO_123001 := n0_; have HO_123002 := n1_; have BK122 := n2_; have HB := n3_; have HO127 := n4_; clear n0_ n1_ n2_ n3_ n4_; clear ho hb hg hat; obtain ⟨Ao20, co20, eo20⟩ := Kd.R_slice HO127.out; subst eo20; have hcz21_0 : w19.cell? ⟨gb122, 0, none⟩ = some (u123000) := (blk_cell BK122.out 0).trans rfl; have hcz21_1 : w19.cell? ⟨gb122, 1, none⟩ = some (u123001) := (blk_cell BK122.out 1).trans rfl; have hcz21_2 : w19.cell? ⟨gb122, 2, none⟩ = some (u123002) := (blk_cell BK122.out 2).trans rfl; have hcz21_3 : w19.cell? ⟨gb122, 3, none⟩ = some (.slice none 0 0) := (blk_cell BK122.out 3).trans rfl; have hfz21_0 := blk_frozen BK122.out 0; have hfz21_1 := blk_frozen BK122.out 1; have hfz21_2 := blk_frozen BK122.out 2; have hfz21_3 := blk_frozen BK122.out 3))
                  go_roundg k1
                  case measure => have := HK1.out; omega
                  case rel => exact ⟨(wrap64 (x8_1 + 1)), (y125), (x123001_1), (x123002_1), (.slice Ao20 y125.length co20), (u123001), (u123002), (by first | rfl | (simp; done) | (simp [*]; done)), H', ⟨by have := HK1.out; omega⟩, ⟨by (with_reducible repeat (first | apply Kd.R_alloc | apply Kd.R_drewN | apply Kd.R_drew)); exact Kd.R_mono (Kd.R_far (p := ⟨gb122, 0, none⟩) (Kd.R_types HO127.out BK122.out (by decide)) (fun _ hk => hk.2) (.slice Ao20 y125.length co20)) (fun _ hk => hk.1)⟩, ⟨by (with_reducible repeat (first | apply Kd.R_alloc | apply Kd.R_drewN | apply Kd.R_drew)); exact Kd.R_mono (Kd.R_far (p := ⟨gb122, 0, none⟩) (Kd.R_types HO_123001.out BK122.out (by decide)) (fun _ hk => hk.2) (.slice Ao20 y125.length co20)) (fun _ hk => hk.1.2)⟩, ⟨by (with_reducible repeat (first | apply Kd.R_alloc | apply Kd.R_drewN | apply Kd.R_drew)); exact Kd.R_mono (Kd.R_far (p := ⟨gb122, 0, none⟩) (Kd.R_types HO_123002.out BK122.out (by decide)) (fun _ hk => hk.2) (.slice Ao20 y125.length co20)) (fun _ hk => trivial)⟩, ⟨by (with_reducible repeat (first | refine blk_drewN ?_ _ | refine blk_drew ?_ | refine blk_alloc ?_ _)); refine blk_put (cs := #[u123000, u123001, u123002, .slice none 0 0]) ?_ 0 _ rfl; (with_reducible repeat (first | refine blk_drewN ?_ _ | refine blk_drew ?_ | refine blk_alloc ?_ _)); exact BK122.out⟩, ⟨by repeat (first | (with_reducible first | exact HB.out | apply below_alloc | apply pw_below_drewN | apply below_drew1 | refine below_set ?_ GE122.out) | exact HB.out)⟩⟩
                · rw [if_neg c17] at H
                  exact absurd H (by simp)
              · rw [if_neg c16] at H
                have c16b0 : (t124 == 0) = false := beq_eq_false_iff_ne.mpr c16
                have c16b1 : (t124 != 0) = true := bne_iff_ne.mpr c16
                by_cases c22 : t124 = 1
                · rw [if_pos c22] at H
                  have c22b0 : (t124 == 1) = true := beq_iff_eq.mpr c22
                  have c22b1 : (t124 != 1) = false := bne_eq_false_iff_eq.mpr c22
                  clear c22
                  by_cases c23 : x123001_1.length < 8796093022208
                  · rw [if_pos c23] at H
                    have LMc23 := Aside0.mk c23
                    clear c23
                    obtain ⟨y128, hy128⟩ : ∃ y_ : List ByteArray, y_ = (x123001_1 ++ [(⟨#[97]⟩ : ByteArray) ++ t123]) := ⟨_, rfl⟩
                    replace H : (railplanlaw4_LayoutLimits.l0 k1 a0 (rd y116 t119) (wrap64 ((wrap64 ((rd y116 t119) + t121)) - 1)) (wrap64 (x8_1 + 1)) x123000_1 y128 x123002_1) = some r := by first | (rw [hy128]; with_reducible exact H) | (have H2_ := (Option.bind_some _ _).symm.trans H; rw [hy128]; with_reducible exact H2_) | (have H2_ := (Option.bind_some _ _).symm.trans H; with_reducible exact H2_) | with_reducible exact H | (rw [hy128]; exact H) | exact H
                    have Ny128 := Aside0.mk hy128
                    clear hy128
                    have H' := Aside0.mk H
                    clear H
                    go_wp2_with (first | ((with_reducible refine gate_callee (f := 7) rfl ?_); refine goesL_ (some 27) rfl rfl Try.func7 (by kernel_rfl) rfl #[.int .i64 x8_1] rfl (by (try simp only [List.map_toArray, List.map_cons, List.map_nil]); first | done | rfl | (simp only [List.length_drop, List.length_take]; rfl)) ?_; (with_reducible refine (railplanref1_Decimal.calls k1 x8_1 t123 _ A13.out).mono ?_); rintro e w' ⟨rfl, ⟨nd, rfl⟩⟩; refine ⟨_, rfl, ?_⟩; (try (rw [drewN_self wr]; generalize hq_ : World.drewN wr _ = wr; have n0_ : Aside0 (Kd.R Kd.string 9 wr w.heap.size (fun k_ => some k_ ≠ (u123001 : Value).ownBlock) u123000 x123000_1) := ⟨by rw [← hq_]; exact (by (with_reducible repeat (first | apply Kd.R_alloc | apply Kd.R_drewN | apply Kd.R_drew)); exact HO_123000.out)⟩; have n1_ : Aside0 (Kd.R Kd.string 9 wr w.heap.size (fun k_ => some k_ ≠ (u123000 : Value).ownBlock) u123001 x123001_1) := ⟨by rw [← hq_]; exact (by (with_reducible repeat (first | apply Kd.R_alloc | apply Kd.R_drewN | apply Kd.R_drew)); exact HO_123001.out)⟩; have n2_ : Aside0 (Kd.R k31 31 wr w.heap.size (fun _ => True) u123002 x123002_1) := ⟨by rw [← hq_]; exact (by (with_reducible repeat (first | apply Kd.R_alloc | apply Kd.R_drewN | apply Kd.R_drew)); exact HO_123002.out)⟩; have n3_ : Aside0 (wr.heap[gb122]? = some (.cells #[u123000, u123001, u123002, .slice none 0 0] 28 (0, 0))) := ⟨by rw [← hq_]; exact (by (with_reducible repeat (first | refine blk_drewN ?_ _ | refine blk_drew ?_ | refine blk_alloc ?_ _)); exact BK122.out)⟩; have n4_ : Aside0 (Below w.heap.size w wr) := ⟨by rw [← hq_]; exact (by repeat (first | (with_reducible first | exact HB.out | apply below_alloc | apply pw_below_drewN | apply below_drew1 | refine below_set ?_ GE122.out) | exact HB.out))⟩; clear HO_123000 HO_123001 HO_123002 BK122 HB hq_; have HO_123000 := n0_; have HO_123001 := n1_; have HO_123002 := n2_; have BK122 := n3_; have HB := n4_; clear n0_ n1_ n2_ n3_ n4_))) | ((with_reducible refine gate_callee (f := 6) rfl ?_); refine goesL_ (some 30) rfl rfl Try.func6 (by kernel_rfl) rfl #[.int .i64 a0, .int .i64 3] rfl (by (try simp only [List.map_toArray, List.map_cons, List.map_nil]); first | done | rfl | (simp only [List.length_drop, List.length_take]; rfl)) ?_; (with_reducible refine (railplankeep_Pick.calls a0 3 t124 _ A15.out).mono ?_); rintro e w' ⟨rfl, ⟨nd, rfl⟩⟩; refine ⟨_, rfl, ?_⟩; (try (rw [drewN_self wr]; generalize hq_ : World.drewN wr _ = wr; have n0_ : Aside0 (Kd.R Kd.string 9 wr w.heap.size (fun k_ => some k_ ≠ (u123001 : Value).ownBlock) u123000 x123000_1) := ⟨by rw [← hq_]; exact (by (with_reducible repeat (first | apply Kd.R_alloc | apply Kd.R_drewN | apply Kd.R_drew)); exact HO_123000.out)⟩; have n1_ : Aside0 (Kd.R Kd.string 9 wr w.heap.size (fun k_ => some k_ ≠ (u123000 : Value).ownBlock) u123001 x123001_1) := ⟨by rw [← hq_]; exact (by (with_reducible repeat (first | apply Kd.R_alloc | apply Kd.R_drewN | apply Kd.R_drew)); exact HO_123001.out)⟩; have n2_ : Aside0 (Kd.R k31 31 wr w.heap.size (fun _ => True) u123002 x123002_1) := ⟨by rw [← hq_]; exact (by (with_reducible repeat (first | apply Kd.R_alloc | apply Kd.R_drewN | apply Kd.R_drew)); exact HO_123002.out)⟩; have n3_ : Aside0 (wr.heap[gb122]? = some (.cells #[u123000, u123001, u123002, .slice none 0 0] 28 (0, 0))) := ⟨by rw [← hq_]; exact (by (with_reducible repeat (first | refine blk_drewN ?_ _ | refine blk_drew ?_ | refine blk_alloc ?_ _)); exact BK122.out)⟩; have n4_ : Aside0 (Below w.heap.size w wr) := ⟨by rw [← hq_]; exact (by repeat (first | (with_reducible first | exact HB.out | apply below_alloc | apply pw_below_drewN | apply below_drew1 | refine below_set ?_ GE122.out) | exact HB.out))⟩; clear HO_123000 HO_123001 HO_123002 BK122 HB hq_; have HO_123000 := n0_; have HO_123001 := n1_; have HO_123002 := n2_; have BK122 := n3_; have HB := n4_; clear n0_ n1_ n2_ n3_ n4_)); have hcz24_0 : wr.cell? ⟨gb122, 0, none⟩ = some (u123000) := (blk_cell BK122.out 0).trans rfl; have hcz24_1 : wr.cell? ⟨gb122, 1, none⟩ = some (u123001) := (blk_cell BK122.out 1).trans rfl; have hcz24_2 : wr.cell? ⟨gb122, 2, none⟩ = some (u123002) := (blk_cell BK122.out 2).trans rfl; have hcz24_3 : wr.cell? ⟨gb122, 3, none⟩ = some (.slice none 0 0) := (blk_cell BK122.out 3).trans rfl; have hfz24_0 := blk_frozen BK122.out 0; have hfz24_1 := blk_frozen BK122.out 1; have hfz24_2 := blk_frozen BK122.out 2; have hfz24_3 := blk_frozen BK122.out 3) | ((with_reducible refine gate_builtin (b := .append) (xs := #[.tmp 49, .tmp 51]) rfl ?_); at_builtin; refine Kd.R_append Kd.string (w0 := w) w.heap.size rfl (.tmp 49) (.tmp 51) 24 9 (.string ⟨#[]⟩) 16 rfl Try.underlying24 info9 rfl (by decide) (by omega) u123001 x123001_1 ((⟨#[97]⟩ : ByteArray) ++ t123) [.string ((⟨#[97]⟩ : ByteArray) ++ t123)] (fun k_ => some k_ ≠ (u123000 : Value).ownBlock) (fun _ => False) rfl rfl ?aP (fun _ hk => hk.elim) ?aF ?aO ?aB ?aS ?aL ?_; (case aP => exact rfl); (case aB => exact (by repeat (first | (with_reducible first | exact HB.out | apply below_alloc | apply pw_below_drewN | apply below_drew1 | refine below_set ?_ GE122.out) | exact HB.out))); (case aF => exact (fun k_ hk => Kd.fresh' (Kd.R_lt (by (with_reducible repeat (first | apply Kd.R_alloc | apply Kd.R_drewN | apply Kd.R_drew)); exact HO_123000.out)) k_ hk)); (case aO => exact (by (with_reducible repeat (first | apply Kd.R_alloc | apply Kd.R_drewN | apply Kd.R_drew)); exact HO_123001.out)); (case aS => exact (below_size (by repeat (first | (with_reducible first | exact HB.out | apply below_alloc | apply pw_below_drewN | apply below_drew1 | refine below_set ?_ GE122.out) | exact HB.out)))); (case aL => have := LMc23.out; omega); intro v129 w25 ho hb hg hat; rw [← Ny128.out] at ho; have n0_ := Aside0.mk (Kd.R_after (ok := (fun _ => True)) (by (with_reducible repeat (first | apply Kd.R_alloc | apply Kd.R_drewN | apply Kd.R_drew)); exact Kd.R_mono HO_123000.out (fun _ hk => ⟨trivial, hk⟩)) hg hat); have n1_ := Aside0.mk (Kd.R_over' (by (with_reducible repeat (first | apply Kd.R_alloc | apply Kd.R_drewN | apply Kd.R_drew)); exact HO_123002.out) (Kd.R_typed (by (with_reducible repeat (first | apply Kd.R_alloc | apply Kd.R_drewN | apply Kd.R_drew)); exact HO_123001.out)) (by decide) hg); have n2_ := Aside0.mk (blk_grown (g := gb122) (o := .cells #[u123000, u123001, u123002, .slice none 0 0] 28 (0, 0)) (by (with_reducible repeat (first | refine blk_drewN ?_ _ | refine blk_drew ?_ | refine blk_alloc ?_ _)); exact BK122.out) hg (Kd.R_ne HO_123001.out BK122.out (by decide))); have n3_ := Aside0.mk (hb); have n4_ := Aside0.mk (ho); clear HO_123000; clear HO_123002; clear BK122; clear HB; clear HO_123001; have HO_123000 := n0_; have HO_123002 := n1_; have BK122 := n2_; have HB := n3_; have HO130 := n4_; clear n0_ n1_ n2_ n3_ n4_; clear ho hb hg hat; obtain ⟨Ao26, co26, eo26⟩ := Kd.R_slice HO130.out; subst eo26; have hcz27_0 : w25.cell? ⟨gb122, 0, none⟩ = some (u123000) := (blk_cell BK122.out 0).trans rfl; have hcz27_1 : w25.cell? ⟨gb122, 1, none⟩ = some (u123001) := (blk_cell BK122.out 1).trans rfl; have hcz27_2 : w25.cell? ⟨gb122, 2, none⟩ = some (u123002) := (blk_cell BK122.out 2).trans rfl; have hcz27_3 : w25.cell? ⟨gb122, 3, none⟩ = some (.slice none 0 0) := (blk_cell BK122.out 3).trans rfl; have hfz27_0 := blk_frozen BK122.out 0; have hfz27_1 := blk_frozen BK122.out 1; have hfz27_2 := blk_frozen BK122.out 2; have hfz27_3 := blk_frozen BK122.out 3))
                    go_roundg k1
                    case measure => have := HK1.out; omega
                    case rel => exact ⟨(wrap64 (x8_1 + 1)), (x123000_1), (y128), (x123002_1), (u123000), (.slice Ao26 y128.length co26), (u123002), (by first | rfl | (simp; done) | (simp [*]; done)), H', ⟨by have := HK1.out; omega⟩, ⟨by (with_reducible repeat (first | apply Kd.R_alloc | apply Kd.R_drewN | apply Kd.R_drew)); exact Kd.R_mono (Kd.R_far (p := ⟨gb122, 1, none⟩) (Kd.R_types HO_123000.out BK122.out (by decide)) (fun _ hk => hk.2) (.slice Ao26 y128.length co26)) (fun _ hk => hk.1.2)⟩, ⟨by (with_reducible repeat (first | apply Kd.R_alloc | apply Kd.R_drewN | apply Kd.R_drew)); exact Kd.R_mono (Kd.R_far (p := ⟨gb122, 1, none⟩) (Kd.R_types HO130.out BK122.out (by decide)) (fun _ hk => hk.2) (.slice Ao26 y128.length co26)) (fun _ hk => hk.1)⟩, ⟨by (with_reducible repeat (first | apply Kd.R_alloc | apply Kd.R_drewN | apply Kd.R_drew)); exact Kd.R_mono (Kd.R_far (p := ⟨gb122, 1, none⟩) (Kd.R_types HO_123002.out BK122.out (by decide)) (fun _ hk => hk.2) (.slice Ao26 y128.length co26)) (fun _ hk => trivial)⟩, ⟨by (with_reducible repeat (first | refine blk_drewN ?_ _ | refine blk_drew ?_ | refine blk_alloc ?_ _)); refine blk_put (cs := #[u123000, u123001, u123002, .slice none 0 0]) ?_ 1 _ rfl; (with_reducible repeat (first | refine blk_drewN ?_ _ | refine blk_drew ?_ | refine blk_alloc ?_ _)); exact BK122.out⟩, ⟨by repeat (first | (with_reducible first | exact HB.out | apply below_alloc | apply pw_below_drewN | apply below_drew1 | refine below_set ?_ GE122.out) | exact HB.out)⟩⟩
                  · rw [if_neg c23] at H
                    exact absurd H (by simp)
                · rw [if_neg c22] at H
                  have c22b0 : (t124 == 1) = false := beq_eq_false_iff_ne.mpr c22
                  have c22b1 : (t124 != 1) = true := bne_iff_ne.mpr c22
                  by_cases c28 : x123002_1.length < 2932031007402
                  · rw [if_pos c28] at H
                    have LMc28 := Aside0.mk c28
                    clear c28
                    obtain ⟨y131, hy131⟩ : ∃ y_ : List (S31), y_ = (x123002_1 ++ [(⟨(⟨#[97]⟩ : ByteArray) ++ t123, 1, 1000, 0, (-1)⟩ : S31)]) := ⟨_, rfl⟩
                    replace H : (railplanlaw4_LayoutLimits.l0 k1 a0 (rd y116 t119) (wrap64 ((wrap64 ((rd y116 t119) + t121)) - 1)) (wrap64 (x8_1 + 1)) x123000_1 x123001_1 y131) = some r := by first | (rw [hy131]; with_reducible exact H) | (have H2_ := (Option.bind_some _ _).symm.trans H; rw [hy131]; with_reducible exact H2_) | (have H2_ := (Option.bind_some _ _).symm.trans H; with_reducible exact H2_) | with_reducible exact H | (rw [hy131]; exact H) | exact H
                    have Ny131 := Aside0.mk hy131
                    clear hy131
                    have H' := Aside0.mk H
                    clear H
                    go_wp2_with (first | ((with_reducible refine gate_callee (f := 7) rfl ?_); refine goesL_ (some 27) rfl rfl Try.func7 (by kernel_rfl) rfl #[.int .i64 x8_1] rfl (by (try simp only [List.map_toArray, List.map_cons, List.map_nil]); first | done | rfl | (simp only [List.length_drop, List.length_take]; rfl)) ?_; (with_reducible refine (railplanref1_Decimal.calls k1 x8_1 t123 _ A13.out).mono ?_); rintro e w' ⟨rfl, ⟨nd, rfl⟩⟩; refine ⟨_, rfl, ?_⟩; (try (rw [drewN_self wr]; generalize hq_ : World.drewN wr _ = wr; have n0_ : Aside0 (Kd.R Kd.string 9 wr w.heap.size (fun k_ => some k_ ≠ (u123001 : Value).ownBlock) u123000 x123000_1) := ⟨by rw [← hq_]; exact (by (with_reducible repeat (first | apply Kd.R_alloc | apply Kd.R_drewN | apply Kd.R_drew)); exact HO_123000.out)⟩; have n1_ : Aside0 (Kd.R Kd.string 9 wr w.heap.size (fun k_ => some k_ ≠ (u123000 : Value).ownBlock) u123001 x123001_1) := ⟨by rw [← hq_]; exact (by (with_reducible repeat (first | apply Kd.R_alloc | apply Kd.R_drewN | apply Kd.R_drew)); exact HO_123001.out)⟩; have n2_ : Aside0 (Kd.R k31 31 wr w.heap.size (fun _ => True) u123002 x123002_1) := ⟨by rw [← hq_]; exact (by (with_reducible repeat (first | apply Kd.R_alloc | apply Kd.R_drewN | apply Kd.R_drew)); exact HO_123002.out)⟩; have n3_ : Aside0 (wr.heap[gb122]? = some (.cells #[u123000, u123001, u123002, .slice none 0 0] 28 (0, 0))) := ⟨by rw [← hq_]; exact (by (with_reducible repeat (first | refine blk_drewN ?_ _ | refine blk_drew ?_ | refine blk_alloc ?_ _)); exact BK122.out)⟩; have n4_ : Aside0 (Below w.heap.size w wr) := ⟨by rw [← hq_]; exact (by repeat (first | (with_reducible first | exact HB.out | apply below_alloc | apply pw_below_drewN | apply below_drew1 | refine below_set ?_ GE122.out) | exact HB.out))⟩; clear HO_123000 HO_123001 HO_123002 BK122 HB hq_; have HO_123000 := n0_; have HO_123001 := n1_; have HO_123002 := n2_; have BK122 := n3_; have HB := n4_; clear n0_ n1_ n2_ n3_ n4_))) | ((with_reducible refine gate_callee (f := 6) rfl ?_); refine goesL_ (some 30) rfl rfl Try.func6 (by kernel_rfl) rfl #[.int .i64 a0, .int .i64 3] rfl (by (try simp only [List.map_toArray, List.map_cons, List.map_nil]); first | done | rfl | (simp only [List.length_drop, List.length_take]; rfl)) ?_; (with_reducible refine (railplankeep_Pick.calls a0 3 t124 _ A15.out).mono ?_); rintro e w' ⟨rfl, ⟨nd, rfl⟩⟩; refine ⟨_, rfl, ?_⟩; (try (rw [drewN_self wr]; generalize hq_ : World.drewN wr _ = wr; have n0_ : Aside0 (Kd.R Kd.string 9 wr w.heap.size (fun k_ => some k_ ≠ (u123001 : Value).ownBlock) u123000 x123000_1) := ⟨by rw [← hq_]; exact (by (with_reducible repeat (first | apply Kd.R_alloc | apply Kd.R_drewN | apply Kd.R_drew)); exact HO_123000.out)⟩; have n1_ : Aside0 (Kd.R Kd.string 9 wr w.heap.size (fun k_ => some k_ ≠ (u123000 : Value).ownBlock) u123001 x123001_1) := ⟨by rw [← hq_]; exact (by (with_reducible repeat (first | apply Kd.R_alloc | apply Kd.R_drewN | apply Kd.R_drew)); exact HO_123001.out)⟩; have n2_ : Aside0 (Kd.R k31 31 wr w.heap.size (fun _ => True) u123002 x123002_1) := ⟨by rw [← hq_]; exact (by (with_reducible repeat (first | apply Kd.R_alloc | apply Kd.R_drewN | apply Kd.R_drew)); exact HO_123002.out)⟩; have n3_ : Aside0 (wr.heap[gb122]? = some (.cells #[u123000, u123001, u123002, .slice none 0 0] 28 (0, 0))) := ⟨by rw [← hq_]; exact (by (with_reducible repeat (first | refine blk_drewN ?_ _ | refine blk_drew ?_ | refine blk_alloc ?_ _)); exact BK122.out)⟩; have n4_ : Aside0 (Below w.heap.size w wr) := ⟨by rw [← hq_]; exact (by repeat (first | (with_reducible first | exact HB.out | apply below_alloc | apply pw_below_drewN | apply below_drew1 | refine below_set ?_ GE122.out) | exact HB.out))⟩; clear HO_123000 HO_123001 HO_123002 BK122 HB hq_; have HO_123000 := n0_; have HO_123001 := n1_; have HO_123002 := n2_; have BK122 := n3_; have HB := n4_; clear n0_ n1_ n2_ n3_ n4_)); have hcz29_0 : wr.cell? ⟨gb122, 0, none⟩ = some (u123000) := (blk_cell BK122.out 0).trans rfl; have hcz29_1 : wr.cell? ⟨gb122, 1, none⟩ = some (u123001) := (blk_cell BK122.out 1).trans rfl; have hcz29_2 : wr.cell? ⟨gb122, 2, none⟩ = some (u123002) := (blk_cell BK122.out 2).trans rfl; have hcz29_3 : wr.cell? ⟨gb122, 3, none⟩ = some (.slice none 0 0) := (blk_cell BK122.out 3).trans rfl; have hfz29_0 := blk_frozen BK122.out 0; have hfz29_1 := blk_frozen BK122.out 1; have hfz29_2 := blk_frozen BK122.out 2; have hfz29_3 := blk_frozen BK122.out 3) | ((with_reducible refine gate_builtin (b := .append) (xs := #[.tmp 32, .tmp 35]) rfl ?_); at_builtin; refine Kd.R_append k31 (w0 := w) w.heap.size rfl (.tmp 32) (.tmp 35) 25 31 (.agg #[(.string ⟨#[]⟩), (.int .i64 0), (.int .i64 0), (.int .i64 0), (.int .i64 0)]) 48 rfl Try.underlying25 info31 rfl (by decide) (by omega) u123002 x123002_1 (⟨(⟨#[97]⟩ : ByteArray) ++ t123, 1, 1000, 0, (-1)⟩ : S31) [.string ((⟨#[97]⟩ : ByteArray) ++ t123), .int .i64 1, .int .i64 1000, .int .i64 0, .int .i64 (-1)] (fun _ => True) (fun _ => False) rfl rfl ?aP (fun _ hk => hk.elim) ?aF ?aO ?aB ?aS ?aL ?_; (case aP => exact k31_mkM _ _ _ (⟨(⟨#[97]⟩ : ByteArray) ++ t123, 1, 1000, 0, (-1)⟩ : S31)); (case aB => exact (by repeat (first | (with_reducible first | exact HB.out | apply below_alloc | apply pw_below_drewN | apply below_drew1 | refine below_set ?_ GE122.out) | exact HB.out))); (case aF => exact (fun _ _ => trivial)); (case aO => exact (by (with_reducible repeat (first | apply Kd.R_alloc | apply Kd.R_drewN | apply Kd.R_drew)); exact HO_123002.out)); (case aS => exact (below_size (by repeat (first | (with_reducible first | exact HB.out | apply below_alloc | apply pw_below_drewN | apply below_drew1 | refine below_set ?_ GE122.out) | exact HB.out)))); (case aL => have := LMc28.out; omega); intro v132 w30 ho hb hg hat; rw [← Ny131.out] at ho; have n0_ := Aside0.mk (Kd.R_over' (by (with_reducible repeat (first | apply Kd.R_alloc | apply Kd.R_drewN | apply Kd.R_drew)); exact HO_123000.out) (Kd.R_typed (by (with_reducible repeat (first | apply Kd.R_alloc | apply Kd.R_drewN | apply Kd.R_drew)); exact HO_123002.out)) (by decide) hg); have n1_ := Aside0.mk (Kd.R_over' (by (with_reducible repeat (first | apply Kd.R_alloc | apply Kd.R_drewN | apply Kd.R_drew)); exact HO_123001.out) (Kd.R_typed (by (with_reducible repeat (first | apply Kd.R_alloc | apply Kd.R_drewN | apply Kd.R_drew)); exact HO_123002.out)) (by decide) hg); have n2_ := Aside0.mk (blk_grown (g := gb122) (o := .cells #[u123000, u123001, u123002, .slice none 0 0] 28 (0, 0)) (by (with_reducible repeat (first | refine blk_drewN ?_ _ | refine blk_drew ?_ | refine blk_alloc ?_ _)); exact BK122.out) hg (Kd.R_ne HO_123002.out BK122.out (by decide))); have n3_ := Aside0.mk (hb); have n4_ := Aside0.mk (ho); clear HO_123000; clear HO_123001; clear BK122; clear HB; clear HO_123002; have HO_123000 := n0_; have HO_123001 := n1_; have BK122 := n2_; have HB := n3_; have HO133 := n4_; clear n0_ n1_ n2_ n3_ n4_; clear ho hb hg hat; obtain ⟨Ao31, co31, eo31⟩ := Kd.R_slice HO133.out; subst eo31; have hcz32_0 : w30.cell? ⟨gb122, 0, none⟩ = some (u123000) := (blk_cell BK122.out 0).trans rfl; have hcz32_1 : w30.cell? ⟨gb122, 1, none⟩ = some (u123001) := (blk_cell BK122.out 1).trans rfl; have hcz32_2 : w30.cell? ⟨gb122, 2, none⟩ = some (u123002) := (blk_cell BK122.out 2).trans rfl; have hcz32_3 : w30.cell? ⟨gb122, 3, none⟩ = some (.slice none 0 0) := (blk_cell BK122.out 3).trans rfl; have hfz32_0 := blk_frozen BK122.out 0; have hfz32_1 := blk_frozen BK122.out 1; have hfz32_2 := blk_frozen BK122.out 2; have hfz32_3 := blk_frozen BK122.out 3))
                    go_roundg k1
                    case measure => have := HK1.out; omega
                    case rel => exact ⟨(wrap64 (x8_1 + 1)), (x123000_1), (x123001_1), (y131), (u123000), (u123001), (.slice Ao31 y131.length co31), (by first | rfl | (simp; done) | (simp [*]; done)), H', ⟨by have := HK1.out; omega⟩, ⟨by (with_reducible repeat (first | apply Kd.R_alloc | apply Kd.R_drewN | apply Kd.R_drew)); exact Kd.R_mono (Kd.R_far (p := ⟨gb122, 2, none⟩) (Kd.R_types HO_123000.out BK122.out (by decide)) (fun _ hk => hk.2) (.slice Ao31 y131.length co31)) (fun _ hk => hk.1)⟩, ⟨by (with_reducible repeat (first | apply Kd.R_alloc | apply Kd.R_drewN | apply Kd.R_drew)); exact Kd.R_mono (Kd.R_far (p := ⟨gb122, 2, none⟩) (Kd.R_types HO_123001.out BK122.out (by decide)) (fun _ hk => hk.2) (.slice Ao31 y131.length co31)) (fun _ hk => hk.1)⟩, ⟨by (with_reducible repeat (first | apply Kd.R_alloc | apply Kd.R_drewN | apply Kd.R_drew)); exact Kd.R_mono (Kd.R_far (p := ⟨gb122, 2, none⟩) (Kd.R_types HO133.out BK122.out (by decide)) (fun _ hk => hk.2) (.slice Ao31 y131.length co31)) (fun _ hk => trivial)⟩, ⟨by (with_reducible repeat (first | refine blk_drewN ?_ _ | refine blk_drew ?_ | refine blk_alloc ?_ _)); refine blk_put (cs := #[u123000, u123001, u123002, .slice none 0 0]) ?_ 2 _ rfl; (with_reducible repeat (first | refine blk_drewN ?_ _ | refine blk_drew ?_ | refine blk_alloc ?_ _)); exact BK122.out⟩, ⟨by repeat (first | (with_reducible first | exact HB.out | apply below_alloc | apply pw_below_drewN | apply below_drew1 | refine below_set ?_ GE122.out) | exact HB.out)⟩⟩
                  · rw [if_neg c28] at H
                    exact absurd H (by simp)
            · rw [if_neg c14] at H
              exact absurd H (by simp)
          · rw [if_neg c12] at H
            have c12b0 : decide (x8_1 < (wrap64 ((wrap64 ((rd y116 t119) + t121)) - 1))) = false := decide_eq_false c12
            clear c12
            by_cases c33 : (x123002_1.length : Int) = 0
            · rw [if_pos c33] at H
              have c33b0 : ((x123002_1.length : Int) == 0) = true := beq_iff_eq.mpr c33
              have c33b1 : ((x123002_1.length : Int) != 0) = false := bne_eq_false_iff_eq.mpr c33
              clear c33
              obtain ⟨y134, hy134⟩ : ∃ y_ : List (S31), y_ = (([(⟨(⟨#[88]⟩ : ByteArray), 400, 100000, (-40), (-1)⟩ : S31)] : List (S31))) := ⟨_, rfl⟩
              replace H : ((railplanlaw4_awake.f).bind fun t137 => (if t137 = true then ((layout_Check.f x123000_1 x123001_1 y134 ([] : List (S61))).bind fun t138 => (if ((t138 == 0) == (decide ((wrap64 ((wrap64 ((rd y116 t119) + t121)) - 1)) ≤ (rd y116 t119)))) = true then ((layout_Check.f x123000_1 x123001_1 y134 ([] : List (S61))).bind fun t139 => (some ((t139 == 7) == (decide ((wrap64 ((wrap64 ((rd y116 t119) + t121)) - 1)) > (rd y116 t119)))))) else (some false))) else (some false))) = some r := by first | (rw [hy134]; with_reducible exact H) | (have H2_ := (Option.bind_some _ _).symm.trans H; rw [hy134]; with_reducible exact H2_) | (have H2_ := (Option.bind_some _ _).symm.trans H; with_reducible exact H2_) | with_reducible exact H | (rw [hy134]; exact H) | exact H
              have Ny134 := Aside0.mk hy134
              clear hy134
              replace H := Option.bind_eq_some_iff.mp H
              obtain ⟨t137, A340, H⟩ := H
              replace H : (if t137 = true then ((layout_Check.f x123000_1 x123001_1 y134 ([] : List (S61))).bind fun t138 => (if ((t138 == 0) == (decide ((wrap64 ((wrap64 ((rd y116 t119) + t121)) - 1)) ≤ (rd y116 t119)))) = true then ((layout_Check.f x123000_1 x123001_1 y134 ([] : List (S61))).bind fun t139 => (some ((t139 == 7) == (decide ((wrap64 ((wrap64 ((rd y116 t119) + t121)) - 1)) > (rd y116 t119)))))) else (some false))) else (some false)) = some r := H
              have A34 := Aside0.mk A340
              clear A340
              by_cases c35 : t137 = true
              · subst c35
                have H1 : ((layout_Check.f x123000_1 x123001_1 y134 ([] : List (S61))).bind fun t138 => (if ((t138 == 0) == (decide ((wrap64 ((wrap64 ((rd y116 t119) + t121)) - 1)) ≤ (rd y116 t119)))) = true then ((layout_Check.f x123000_1 x123001_1 y134 ([] : List (S61))).bind fun t139 => (some ((t139 == 7) == (decide ((wrap64 ((wrap64 ((rd y116 t119) + t121)) - 1)) > (rd y116 t119)))))) else (some false))) = some r := by rw [if_pos rfl] at H; exact H
                clear H
                have H := H1
                clear H1
                replace H := Option.bind_eq_some_iff.mp H
                obtain ⟨t138, A360, H⟩ := H
                replace H : (if ((t138 == 0) == (decide ((wrap64 ((wrap64 ((rd y116 t119) + t121)) - 1)) ≤ (rd y116 t119)))) = true then ((layout_Check.f x123000_1 x123001_1 y134 ([] : List (S61))).bind fun t139 => (some ((t139 == 7) == (decide ((wrap64 ((wrap64 ((rd y116 t119) + t121)) - 1)) > (rd y116 t119)))))) else (some false)) = some r := H
                have A36 := Aside0.mk A360
                clear A360
                by_cases c37 : ((t138 == 0) == (decide ((wrap64 ((wrap64 ((rd y116 t119) + t121)) - 1)) ≤ (rd y116 t119)))) = true
                · rw [if_pos c37] at H
                  have c37b0 : ((t138 == 0) == (decide ((wrap64 ((wrap64 ((rd y116 t119) + t121)) - 1)) ≤ (rd y116 t119)))) = true := c37
                  (try (have c37b1 : decide ((t138 == 0) = (decide ((wrap64 ((wrap64 ((rd y116 t119) + t121)) - 1)) ≤ (rd y116 t119)))) = true := by simpa using c37))
                  (try (have c37b2 : ((t138 == 0) == (decide ((wrap64 ((wrap64 ((rd y116 t119) + t121)) - 1)) ≤ (rd y116 t119)))) = true := by simpa using c37))
                  clear c37
                  replace H := Option.bind_eq_some_iff.mp H
                  obtain ⟨t139, A380, H⟩ := H
                  obtain rfl := Option.some.inj (A36.out.symm.trans A380)
                  replace H : (some ((t138 == 7) == (decide ((wrap64 ((wrap64 ((rd y116 t119) + t121)) - 1)) > (rd y116 t119))))) = some r := H
                  have A38 := Aside0.mk A380
                  clear A380
                  obtain rfl := Option.some.inj H
                  simp only [Option.some.injEq, Prod.mk.injEq] at H
                  obtain ⟨rfl⟩ := H
                  have hcz39_0 : wr.cell? ⟨gb122, 0, none⟩ = some (u123000) := (blk_cell BK122.out 0).trans rfl
                  have hcz39_1 : wr.cell? ⟨gb122, 1, none⟩ = some (u123001) := (blk_cell BK122.out 1).trans rfl
                  have hcz39_2 : wr.cell? ⟨gb122, 2, none⟩ = some (u123002) := (blk_cell BK122.out 2).trans rfl
                  have hcz39_3 : wr.cell? ⟨gb122, 3, none⟩ = some (.slice none 0 0) := (blk_cell BK122.out 3).trans rfl
                  have hfz39_0 := blk_frozen BK122.out 0
                  have hfz39_1 := blk_frozen BK122.out 1
                  have hfz39_2 := blk_frozen BK122.out 2
                  have hfz39_3 := blk_frozen BK122.out 3
                  obtain ⟨Ao40, co40, eo40⟩ := Kd.R_slice HO_123002.out
                  subst eo40
                  go_wp2_with (first | ((with_reducible refine gate_dst (N := 59) rfl ?_); refine Kd.R_lit k31 _ 31 ?hg (N := 59) ?hd (xs := ([(⟨(⟨#[88]⟩ : ByteArray), 400, 100000, (-40), (-1)⟩ : S31)] : List (S31))) (inner := [.string (⟨#[88]⟩ : ByteArray), .int .i64 400, .int .i64 100000, .int .i64 (-40), .int .i64 (-1)]) (ok := fun _ => True) (okp := fun _ => True) ?hr ?hp (fun _ hk => hk) trivial (Below.refl _ _) (Nat.le_refl _) (by simp) ?_; (case hd => rfl); (case hg => rfl); (case hr => first | (go_simp; done) | (go_simp; rfl)); (case hp => exact (Reps.c5 (show Kd.M k31 _ _ _ (⟨(⟨#[88]⟩ : ByteArray), 400, 100000, (-40), (-1)⟩ : S31) [.string (⟨#[88]⟩ : ByteArray), .int .i64 400, .int .i64 100000, .int .i64 (-40), .int .i64 (-1)] from (k31_mkM _ _ _ (⟨(⟨#[88]⟩ : ByteArray), 400, 100000, (-40), (-1)⟩ : S31) )) (Reps.none _ _))); intro v135 w41 ho42 hb hg_ hnew_; clear hg_ hnew_; (first | rw [← Ny134.out] at ho42 | (simp only [Int.reduceToNat] at ho42; rw [← Ny134.out] at ho42)); have n0_ := Aside0.mk (Kd.R_below (by (with_reducible repeat (first | apply Kd.R_alloc | apply Kd.R_drewN | apply Kd.R_drew)); exact HO_123000.out) hb); have n1_ := Aside0.mk (Kd.R_below (by (with_reducible repeat (first | apply Kd.R_alloc | apply Kd.R_drewN | apply Kd.R_drew)); exact HO_123001.out) hb); have n2_ := Aside0.mk (Kd.R_elder' (by (with_reducible repeat (first | apply Kd.R_alloc | apply Kd.R_drewN | apply Kd.R_drew)); exact HO_123002.out) (Kd.R_base ho42) hb); have n3_ := Aside0.mk (Kd.R_lower (Kd.R_new' ho42 (Kd.R_lt (by (with_reducible repeat (first | apply Kd.R_alloc | apply Kd.R_drewN | apply Kd.R_drew)); exact HO_123002.out))) (below_size (by repeat (first | (with_reducible first | exact HB.out | apply below_alloc | apply pw_below_drewN | apply below_drew1 | refine below_set ?_ GE122.out) | exact HB.out)))); have n4_ := Aside0.mk (blk_below (g := gb122) (o := .cells #[u123000, u123001, .slice Ao40 x123002_1.length co40, .slice none 0 0] 28 (0, 0)) (by (with_reducible repeat (first | refine blk_drewN ?_ _ | refine blk_drew ?_ | refine blk_alloc ?_ _)); exact BK122.out) hb); have n5_ := Aside0.mk (below_step (by repeat (first | (with_reducible first | exact HB.out | apply below_alloc | apply pw_below_drewN | apply below_drew1 | refine below_set ?_ GE122.out) | exact HB.out)) hb); clear HO_123000; clear HO_123001; clear HO_123002; clear BK122; clear HB; have HO_123000 := n0_; have HO_123001 := n1_; have HO_123002 := n2_; have HO136 := n3_; have BK122 := n4_; have HB := n5_; clear n0_ n1_ n2_ n3_ n4_ n5_; clear hb ho42; obtain ⟨Ao43, co43, eo43⟩ := Kd.R_slice HO136.out; subst eo43; have hcz44_0 : w41.cell? ⟨gb122, 0, none⟩ = some (u123000) := (blk_cell BK122.out 0).trans rfl; have hcz44_1 : w41.cell? ⟨gb122, 1, none⟩ = some (u123001) := (blk_cell BK122.out 1).trans rfl; have hcz44_2 : w41.cell? ⟨gb122, 2, none⟩ = some (.slice Ao40 x123002_1.length co40) := (blk_cell BK122.out 2).trans rfl; have hcz44_3 : w41.cell? ⟨gb122, 3, none⟩ = some (.slice none 0 0) := (blk_cell BK122.out 3).trans rfl; have hfz44_0 := blk_frozen BK122.out 0; have hfz44_1 := blk_frozen BK122.out 1; have hfz44_2 := blk_frozen BK122.out 2; have hfz44_3 := blk_frozen BK122.out 3) | ((with_reducible refine gate_callee (f := 8) rfl ?_); refine goesL_ (some 61) rfl rfl Try.func8 (by kernel_rfl) rfl #[] rfl (by (try simp only [List.map_toArray, List.map_cons, List.map_nil]); first | done | rfl | (simp only [List.length_drop, List.length_take]; rfl)) ?_; (with_reducible refine (railplanlaw4_awake.calls  true _ A34.out).mono ?_); rintro e w45 ⟨rfl, hb⟩; refine ⟨_, rfl, ?_⟩; have n0_ := Aside0.mk (Kd.R_below (by (with_reducible repeat (first | apply Kd.R_alloc | apply Kd.R_drewN | apply Kd.R_drew)); exact (Kd.R_mono (Kd.R_far (p := ⟨gb122, 2, none⟩) (Kd.R_types HO_123000.out BK122.out (by decide)) (fun _ hk => hk.2) (.slice Ao43 y134.length co43)) (fun _ h_ => h_.1))) hb); have n1_ := Aside0.mk (Kd.R_below (by (with_reducible repeat (first | apply Kd.R_alloc | apply Kd.R_drewN | apply Kd.R_drew)); exact (Kd.R_mono (Kd.R_far (p := ⟨gb122, 2, none⟩) (Kd.R_types HO_123001.out BK122.out (by decide)) (fun _ hk => hk.2) (.slice Ao43 y134.length co43)) (fun _ h_ => h_.1))) hb); have n2_ := Aside0.mk (Kd.R_below (by (with_reducible repeat (first | apply Kd.R_alloc | apply Kd.R_drewN | apply Kd.R_drew)); exact (Kd.R_mono (Kd.R_far (p := ⟨gb122, 2, none⟩) (Kd.R_types HO_123002.out BK122.out (by decide)) (fun _ hk => hk.2) (.slice Ao43 y134.length co43)) (fun _ h_ => h_.1))) hb); have n3_ := Aside0.mk (Kd.R_below (by (with_reducible repeat (first | apply Kd.R_alloc | apply Kd.R_drewN | apply Kd.R_drew)); exact (Kd.R_mono (Kd.R_far (p := ⟨gb122, 2, none⟩) (Kd.R_types HO136.out BK122.out (by decide)) (fun _ hk => hk.2) (.slice Ao43 y134.length co43)) (fun _ h_ => h_.1))) hb); have n4_ := Aside0.mk (blk_below (g := gb122) (o := .cells #[u123000, u123001, .slice Ao43 y134.length co43, .slice none 0 0] 28 (0, 0)) (by (with_reducible repeat (first | refine blk_drewN ?_ _ | refine blk_drew ?_ | refine blk_alloc ?_ _)); refine blk_put (cs := #[u123000, u123001, .slice Ao40 x123002_1.length co40, .slice none 0 0]) ?_ 2 _ rfl; (with_reducible repeat (first | refine blk_drewN ?_ _ | refine blk_drew ?_ | refine blk_alloc ?_ _)); exact BK122.out) hb); have n5_ := Aside0.mk (below_step (by repeat (first | (with_reducible first | exact HB.out | apply below_alloc | apply pw_below_drewN | apply below_drew1 | refine below_set ?_ GE122.out) | exact HB.out)) hb); clear HO_123000; clear HO_123001; clear HO_123002; clear HO136; clear BK122; clear HB; have HO_123000 := n0_; have HO_123001 := n1_; have HO_123002 := n2_; have HO136 := n3_; have BK122 := n4_; have HB := n5_; clear n0_ n1_ n2_ n3_ n4_ n5_; (try clear hb); (try clear hb2); (try clear hk); (try clear hi); have hcz46_0 : w45.cell? ⟨gb122, 0, none⟩ = some (u123000) := (blk_cell BK122.out 0).trans rfl; have hcz46_1 : w45.cell? ⟨gb122, 1, none⟩ = some (u123001) := (blk_cell BK122.out 1).trans rfl; have hcz46_2 : w45.cell? ⟨gb122, 2, none⟩ = some (.slice Ao43 y134.length co43) := (blk_cell BK122.out 2).trans rfl; have hcz46_3 : w45.cell? ⟨gb122, 3, none⟩ = some (.slice none 0 0) := (blk_cell BK122.out 3).trans rfl; have hfz46_0 := blk_frozen BK122.out 0; have hfz46_1 := blk_frozen BK122.out 1; have hfz46_2 := blk_frozen BK122.out 2; have hfz46_3 := blk_frozen BK122.out 3; obtain ⟨Ao47, co47, eo47⟩ := Kd.R_slice HO_123000.out; subst eo47; obtain ⟨Ao48, co48, eo48⟩ := Kd.R_slice HO_123001.out; subst eo48) | (go_at_call 9; (refine (layout_Check.calls _ _ x123000_1 _ _ x123001_1 _ _ y134 _ _ ([] : List (S61)) t138 _ ?side1 ?side2 ?side3 ?side4 ?side5 ?side6 ?side7 ?side8 A36.out).mono ?_); (case side1 => repeat (first | exact (Kd.R_reads' HO_123000.out).2.2 | (with_reducible refine Kd.C_alloc ?_ _) | (with_reducible refine Kd.C_drewN ?_ _) | (with_reducible refine Kd.C_drew ?_))); (case side2 => exact (Kd.R_reads' HO_123000.out).2.1); (case side3 => repeat (first | exact (Kd.R_reads' HO_123001.out).2.2 | (with_reducible refine Kd.C_alloc ?_ _) | (with_reducible refine Kd.C_drewN ?_ _) | (with_reducible refine Kd.C_drew ?_))); (case side4 => exact (Kd.R_reads' HO_123001.out).2.1); (case side5 => repeat (first | exact (Kd.R_reads' HO136.out).2.2 | (with_reducible refine Kd.C_alloc ?_ _) | (with_reducible refine Kd.C_drewN ?_ _) | (with_reducible refine Kd.C_drew ?_))); (case side6 => exact (Kd.R_reads' HO136.out).2.1); (case side7 => exact Kd.C_nil _ _); (case side8 => exact Nat.le_refl _); rintro e w49 ⟨rfl, hb⟩; have n0_ := Aside0.mk (Kd.R_below (by (with_reducible repeat (first | apply Kd.R_alloc | apply Kd.R_drewN | apply Kd.R_drew)); exact HO_123000.out) hb); have n1_ := Aside0.mk (Kd.R_below (by (with_reducible repeat (first | apply Kd.R_alloc | apply Kd.R_drewN | apply Kd.R_drew)); exact HO_123001.out) hb); have n2_ := Aside0.mk (Kd.R_below (by (with_reducible repeat (first | apply Kd.R_alloc | apply Kd.R_drewN | apply Kd.R_drew)); exact HO_123002.out) hb); have n3_ := Aside0.mk (Kd.R_below (by (with_reducible repeat (first | apply Kd.R_alloc | apply Kd.R_drewN | apply Kd.R_drew)); exact HO136.out) hb); have n4_ := Aside0.mk (blk_below (g := gb122) (o := .cells #[.slice Ao47 x123000_1.length co47, .slice Ao48 x123001_1.length co48, .slice Ao43 y134.length co43, .slice none 0 0] 28 (0, 0)) (by (with_reducible repeat (first | refine blk_drewN ?_ _ | refine blk_drew ?_ | refine blk_alloc ?_ _)); exact BK122.out) hb); have n5_ := Aside0.mk (below_step (by repeat (first | (with_reducible first | exact HB.out | apply below_alloc | apply pw_below_drewN | apply below_drew1 | refine below_set ?_ GE122.out) | exact HB.out)) hb); clear HO_123000; clear HO_123001; clear HO_123002; clear HO136; clear BK122; clear HB; have HO_123000 := n0_; have HO_123001 := n1_; have HO_123002 := n2_; have HO136 := n3_; have BK122 := n4_; have HB := n5_; clear n0_ n1_ n2_ n3_ n4_ n5_; (try clear hb); (try clear hb2); (try clear hk); (try clear hi); have hcz50_0 : w49.cell? ⟨gb122, 0, none⟩ = some (.slice Ao47 x123000_1.length co47) := (blk_cell BK122.out 0).trans rfl; have hcz50_1 : w49.cell? ⟨gb122, 1, none⟩ = some (.slice Ao48 x123001_1.length co48) := (blk_cell BK122.out 1).trans rfl; have hcz50_2 : w49.cell? ⟨gb122, 2, none⟩ = some (.slice Ao43 y134.length co43) := (blk_cell BK122.out 2).trans rfl; have hcz50_3 : w49.cell? ⟨gb122, 3, none⟩ = some (.slice none 0 0) := (blk_cell BK122.out 3).trans rfl; have hfz50_0 := blk_frozen BK122.out 0; have hfz50_1 := blk_frozen BK122.out 1; have hfz50_2 := blk_frozen BK122.out 2; have hfz50_3 := blk_frozen BK122.out 3) | (go_at_call 9; (refine (layout_Check.calls _ _ x123000_1 _ _ x123001_1 _ _ y134 _ _ ([] : List (S61)) t138 _ ?side1 ?side2 ?side3 ?side4 ?side5 ?side6 ?side7 ?side8 A38.out).mono ?_); (case side1 => repeat (first | exact (Kd.R_reads' HO_123000.out).2.2 | (with_reducible refine Kd.C_alloc ?_ _) | (with_reducible refine Kd.C_drewN ?_ _) | (with_reducible refine Kd.C_drew ?_))); (case side2 => exact (Kd.R_reads' HO_123000.out).2.1); (case side3 => repeat (first | exact (Kd.R_reads' HO_123001.out).2.2 | (with_reducible refine Kd.C_alloc ?_ _) | (with_reducible refine Kd.C_drewN ?_ _) | (with_reducible refine Kd.C_drew ?_))); (case side4 => exact (Kd.R_reads' HO_123001.out).2.1); (case side5 => repeat (first | exact (Kd.R_reads' HO136.out).2.2 | (with_reducible refine Kd.C_alloc ?_ _) | (with_reducible refine Kd.C_drewN ?_ _) | (with_reducible refine Kd.C_drew ?_))); (case side6 => exact (Kd.R_reads' HO136.out).2.1); (case side7 => exact Kd.C_nil _ _); (case side8 => exact Nat.le_refl _); rintro e w51 ⟨rfl, hb⟩; have n0_ := Aside0.mk (Kd.R_below (by (with_reducible repeat (first | apply Kd.R_alloc | apply Kd.R_drewN | apply Kd.R_drew)); exact HO_123000.out) hb); have n1_ := Aside0.mk (Kd.R_below (by (with_reducible repeat (first | apply Kd.R_alloc | apply Kd.R_drewN | apply Kd.R_drew)); exact HO_123001.out) hb); have n2_ := Aside0.mk (Kd.R_below (by (with_reducible repeat (first | apply Kd.R_alloc | apply Kd.R_drewN | apply Kd.R_drew)); exact HO_123002.out) hb); have n3_ := Aside0.mk (Kd.R_below (by (with_reducible repeat (first | apply Kd.R_alloc | apply Kd.R_drewN | apply Kd.R_drew)); exact HO136.out) hb); have n4_ := Aside0.mk (blk_below (g := gb122) (o := .cells #[.slice Ao47 x123000_1.length co47, .slice Ao48 x123001_1.length co48, .slice Ao43 y134.length co43, .slice none 0 0] 28 (0, 0)) (by (with_reducible repeat (first | refine blk_drewN ?_ _ | refine blk_drew ?_ | refine blk_alloc ?_ _)); exact BK122.out) hb); have n5_ := Aside0.mk (below_step (by repeat (first | (with_reducible first | exact HB.out | apply below_alloc | apply pw_below_drewN | apply below_drew1 | refine below_set ?_ GE122.out) | exact HB.out)) hb); clear HO_123000; clear HO_123001; clear HO_123002; clear HO136; clear BK122; clear HB; have HO_123000 := n0_; have HO_123001 := n1_; have HO_123002 := n2_; have HO136 := n3_; have BK122 := n4_; have HB := n5_; clear n0_ n1_ n2_ n3_ n4_ n5_; (try clear hb); (try clear hb2); (try clear hk); (try clear hi)))
                  go_ret
                  exact ⟨by first | rfl | (simp [errW_none, errW_some] <;> rfl) | (simp [*, errW_none, errW_some] <;> rfl), by repeat (first | (with_reducible first | exact HB.out | apply below_alloc | apply pw_below_drewN | apply below_drew1 | refine below_set ?_ GE122.out) | exact HB.out)⟩
                · rw [if_neg c37] at H
                  have c37b0 : ((t138 == 0) == (decide ((wrap64 ((wrap64 ((rd y116 t119) + t121)) - 1)) ≤ (rd y116 t119)))) = false := by simpa using c37
                  (try (have c37b1 : decide ((t138 == 0) = (decide ((wrap64 ((wrap64 ((rd y116 t119) + t121)) - 1)) ≤ (rd y116 t119)))) = false := by simpa using c37))
                  (try (have c37b2 : ((t138 == 0) == (decide ((wrap64 ((wrap64 ((rd y116 t119) + t121)) - 1)) ≤ (rd y116 t119)))) = false := by simpa using c37))
                  (try (have c37b3 : ¬ ((t138 == 0) = (decide ((wrap64 ((wrap64 ((rd y116 t119) + t121)) - 1)) ≤ (rd y116 t119)))) := by simpa using c37))
                  clear c37
                  obtain rfl := Option.some.inj H
                  exact absurd hr_.out (by decide)
              · replace c35 := Bool.eq_false_iff.mpr c35
                subst c35
                have H1 : (some false) = some r := by rw [if_neg (show ¬ (false = true) by decide)] at H; exact H
                clear H
                have H := H1
                clear H1
                obtain rfl := Option.some.inj H
                exact absurd hr_.out (by decide)
            · rw [if_neg c33] at H
              have c33b0 : ((x123002_1.length : Int) == 0) = false := beq_eq_false_iff_ne.mpr c33
              have c33b1 : ((x123002_1.length : Int) != 0) = true := bne_iff_ne.mpr c33
              have c33b2 : ¬ (x123002_1 = []) := fun h_ => c33 (by rw [h_]; rfl)
              replace H := Option.bind_eq_some_iff.mp H
              obtain ⟨t140, A520, H⟩ := H
              replace H : (if t140 = true then ((layout_Check.f x123000_1 x123001_1 x123002_1 ([] : List (S61))).bind fun t141 => (if ((t141 == 0) == (decide ((wrap64 ((wrap64 ((rd y116 t119) + t121)) - 1)) ≤ (rd y116 t119)))) = true then ((layout_Check.f x123000_1 x123001_1 x123002_1 ([] : List (S61))).bind fun t142 => (some ((t142 == 7) == (decide ((wrap64 ((wrap64 ((rd y116 t119) + t121)) - 1)) > (rd y116 t119)))))) else (some false))) else (some false)) = some r := H
              have A52 := Aside0.mk A520
              clear A520
              by_cases c53 : t140 = true
              · subst c53
                have H1 : ((layout_Check.f x123000_1 x123001_1 x123002_1 ([] : List (S61))).bind fun t141 => (if ((t141 == 0) == (decide ((wrap64 ((wrap64 ((rd y116 t119) + t121)) - 1)) ≤ (rd y116 t119)))) = true then ((layout_Check.f x123000_1 x123001_1 x123002_1 ([] : List (S61))).bind fun t142 => (some ((t142 == 7) == (decide ((wrap64 ((wrap64 ((rd y116 t119) + t121)) - 1)) > (rd y116 t119)))))) else (some false))) = some r := by rw [if_pos rfl] at H; exact H
                clear H
                have H := H1
                clear H1
                replace H := Option.bind_eq_some_iff.mp H
                obtain ⟨t141, A540, H⟩ := H
                replace H : (if ((t141 == 0) == (decide ((wrap64 ((wrap64 ((rd y116 t119) + t121)) - 1)) ≤ (rd y116 t119)))) = true then ((layout_Check.f x123000_1 x123001_1 x123002_1 ([] : List (S61))).bind fun t142 => (some ((t142 == 7) == (decide ((wrap64 ((wrap64 ((rd y116 t119) + t121)) - 1)) > (rd y116 t119)))))) else (some false)) = some r := H
                have A54 := Aside0.mk A540
                clear A540
                by_cases c55 : ((t141 == 0) == (decide ((wrap64 ((wrap64 ((rd y116 t119) + t121)) - 1)) ≤ (rd y116 t119)))) = true
                · rw [if_pos c55] at H
                  have c55b0 : ((t141 == 0) == (decide ((wrap64 ((wrap64 ((rd y116 t119) + t121)) - 1)) ≤ (rd y116 t119)))) = true := c55
                  (try (have c55b1 : decide ((t141 == 0) = (decide ((wrap64 ((wrap64 ((rd y116 t119) + t121)) - 1)) ≤ (rd y116 t119)))) = true := by simpa using c55))
                  (try (have c55b2 : ((t141 == 0) == (decide ((wrap64 ((wrap64 ((rd y116 t119) + t121)) - 1)) ≤ (rd y116 t119)))) = true := by simpa using c55))
                  clear c55
                  replace H := Option.bind_eq_some_iff.mp H
                  obtain ⟨t142, A560, H⟩ := H
                  obtain rfl := Option.some.inj (A54.out.symm.trans A560)
                  replace H : (some ((t141 == 7) == (decide ((wrap64 ((wrap64 ((rd y116 t119) + t121)) - 1)) > (rd y116 t119))))) = some r := H
                  have A56 := Aside0.mk A560
                  clear A560
                  obtain rfl := Option.some.inj H
                  simp only [Option.some.injEq, Prod.mk.injEq] at H
                  obtain ⟨rfl⟩ := H
                  have hcz57_0 : wr.cell? ⟨gb122, 0, none⟩ = some (u123000) := (blk_cell BK122.out 0).trans rfl
                  have hcz57_1 : wr.cell? ⟨gb122, 1, none⟩ = some (u123001) := (blk_cell BK122.out 1).trans rfl
                  have hcz57_2 : wr.cell? ⟨gb122, 2, none⟩ = some (u123002) := (blk_cell BK122.out 2).trans rfl
                  have hcz57_3 : wr.cell? ⟨gb122, 3, none⟩ = some (.slice none 0 0) := (blk_cell BK122.out 3).trans rfl
                  have hfz57_0 := blk_frozen BK122.out 0
                  have hfz57_1 := blk_frozen BK122.out 1
                  have hfz57_2 := blk_frozen BK122.out 2
                  have hfz57_3 := blk_frozen BK122.out 3
                  obtain ⟨Ao58, co58, eo58⟩ := Kd.R_slice HO_123002.out
                  subst eo58
                  go_wp2_with (first | ((with_reducible refine gate_callee (f := 8) rfl ?_); refine goesL_ (some 61) rfl rfl Try.func8 (by kernel_rfl) rfl #[] rfl (by (try simp only [List.map_toArray, List.map_cons, List.map_nil]); first | done | rfl | (simp only [List.length_drop, List.length_take]; rfl)) ?_; (with_reducible refine (railplanlaw4_awake.calls  true _ A52.out).mono ?_); rintro e w59 ⟨rfl, hb⟩; refine ⟨_, rfl, ?_⟩; have n0_ := Aside0.mk (Kd.R_below (by (with_reducible repeat (first | apply Kd.R_alloc | apply Kd.R_drewN | apply Kd.R_drew)); exact HO_123000.out) hb); have n1_ := Aside0.mk (Kd.R_below (by (with_reducible repeat (first | apply Kd.R_alloc | apply Kd.R_drewN | apply Kd.R_drew)); exact HO_123001.out) hb); have n2_ := Aside0.mk (Kd.R_below (by (with_reducible repeat (first | apply Kd.R_alloc | apply Kd.R_drewN | apply Kd.R_drew)); exact HO_123002.out) hb); have n3_ := Aside0.mk (blk_below (g := gb122) (o := .cells #[u123000, u123001, .slice Ao58 x123002_1.length co58, .slice none 0 0] 28 (0, 0)) (by (with_reducible repeat (first | refine blk_drewN ?_ _ | refine blk_drew ?_ | refine blk_alloc ?_ _)); exact BK122.out) hb); have n4_ := Aside0.mk (below_step (by repeat (first | (with_reducible first | exact HB.out | apply below_alloc | apply pw_below_drewN | apply below_drew1 | refine below_set ?_ GE122.out) | exact HB.out)) hb); clear HO_123000; clear HO_123001; clear HO_123002; clear BK122; clear HB; have HO_123000 := n0_; have HO_123001 := n1_; have HO_123002 := n2_; have BK122 := n3_; have HB := n4_; clear n0_ n1_ n2_ n3_ n4_; (try clear hb); (try clear hb2); (try clear hk); (try clear hi); have hcz60_0 : w59.cell? ⟨gb122, 0, none⟩ = some (u123000) := (blk_cell BK122.out 0).trans rfl; have hcz60_1 : w59.cell? ⟨gb122, 1, none⟩ = some (u123001) := (blk_cell BK122.out 1).trans rfl; have hcz60_2 : w59.cell? ⟨gb122, 2, none⟩ = some (.slice Ao58 x123002_1.length co58) := (blk_cell BK122.out 2).trans rfl; have hcz60_3 : w59.cell? ⟨gb122, 3, none⟩ = some (.slice none 0 0) := (blk_cell BK122.out 3).trans rfl; have hfz60_0 := blk_frozen BK122.out 0; have hfz60_1 := blk_frozen BK122.out 1; have hfz60_2 := blk_frozen BK122.out 2; have hfz60_3 := blk_frozen BK122.out 3; obtain ⟨Ao61, co61, eo61⟩ := Kd.R_slice HO_123000.out; subst eo61; obtain ⟨Ao62, co62, eo62⟩ := Kd.R_slice HO_123001.out; subst eo62) | (go_at_call 9; (refine (layout_Check.calls _ _ x123000_1 _ _ x123001_1 _ _ x123002_1 _ _ ([] : List (S61)) t141 _ ?side1 ?side2 ?side3 ?side4 ?side5 ?side6 ?side7 ?side8 A54.out).mono ?_); (case side1 => repeat (first | exact (Kd.R_reads' HO_123000.out).2.2 | (with_reducible refine Kd.C_alloc ?_ _) | (with_reducible refine Kd.C_drewN ?_ _) | (with_reducible refine Kd.C_drew ?_))); (case side2 => exact (Kd.R_reads' HO_123000.out).2.1); (case side3 => repeat (first | exact (Kd.R_reads' HO_123001.out).2.2 | (with_reducible refine Kd.C_alloc ?_ _) | (with_reducible refine Kd.C_drewN ?_ _) | (with_reducible refine Kd.C_drew ?_))); (case side4 => exact (Kd.R_reads' HO_123001.out).2.1); (case side5 => repeat (first | exact (Kd.R_reads' HO_123002.out).2.2 | (with_reducible refine Kd.C_alloc ?_ _) | (with_reducible refine Kd.C_drewN ?_ _) | (with_reducible refine Kd.C_drew ?_))); (case side6 => exact (Kd.R_reads' HO_123002.out).2.1); (case side7 => exact Kd.C_nil _ _); (case side8 => exact Nat.le_refl _); rintro e w63 ⟨rfl, hb⟩; have n0_ := Aside0.mk (Kd.R_below (by (with_reducible repeat (first | apply Kd.R_alloc | apply Kd.R_drewN | apply Kd.R_drew)); exact HO_123000.out) hb); have n1_ := Aside0.mk (Kd.R_below (by (with_reducible repeat (first | apply Kd.R_alloc | apply Kd.R_drewN | apply Kd.R_drew)); exact HO_123001.out) hb); have n2_ := Aside0.mk (Kd.R_below (by (with_reducible repeat (first | apply Kd.R_alloc | apply Kd.R_drewN | apply Kd.R_drew)); exact HO_123002.out) hb); have n3_ := Aside0.mk (blk_below (g := gb122) (o := .cells #[.slice Ao61 x123000_1.length co61, .slice Ao62 x123001_1.length co62, .slice Ao58 x123002_1.length co58, .slice none 0 0] 28 (0, 0)) (by (with_reducible repeat (first | refine blk_drewN ?_ _ | refine blk_drew ?_ | refine blk_alloc ?_ _)); exact BK122.out) hb); have n4_ := Aside0.mk (below_step (by repeat (first | (with_reducible first | exact HB.out | apply below_alloc | apply pw_below_drewN | apply below_drew1 | refine below_set ?_ GE122.out) | exact HB.out)) hb); clear HO_123000; clear HO_123001; clear HO_123002; clear BK122; clear HB; have HO_123000 := n0_; have HO_123001 := n1_; have HO_123002 := n2_; have BK122 := n3_; have HB := n4_; clear n0_ n1_ n2_ n3_ n4_; (try clear hb); (try clear hb2); (try clear hk); (try clear hi); have hcz64_0 : w63.cell? ⟨gb122, 0, none⟩ = some (.slice Ao61 x123000_1.length co61) := (blk_cell BK122.out 0).trans rfl; have hcz64_1 : w63.cell? ⟨gb122, 1, none⟩ = some (.slice Ao62 x123001_1.length co62) := (blk_cell BK122.out 1).trans rfl; have hcz64_2 : w63.cell? ⟨gb122, 2, none⟩ = some (.slice Ao58 x123002_1.length co58) := (blk_cell BK122.out 2).trans rfl; have hcz64_3 : w63.cell? ⟨gb122, 3, none⟩ = some (.slice none 0 0) := (blk_cell BK122.out 3).trans rfl; have hfz64_0 := blk_frozen BK122.out 0; have hfz64_1 := blk_frozen BK122.out 1; have hfz64_2 := blk_frozen BK122.out 2; have hfz64_3 := blk_frozen BK122.out 3) | (go_at_call 9; (refine (layout_Check.calls _ _ x123000_1 _ _ x123001_1 _ _ x123002_1 _ _ ([] : List (S61)) t141 _ ?side1 ?side2 ?side3 ?side4 ?side5 ?side6 ?side7 ?side8 A56.out).mono ?_); (case side1 => repeat (first | exact (Kd.R_reads' HO_123000.out).2.2 | (with_reducible refine Kd.C_alloc ?_ _) | (with_reducible refine Kd.C_drewN ?_ _) | (with_reducible refine Kd.C_drew ?_))); (case side2 => exact (Kd.R_reads' HO_123000.out).2.1); (case side3 => repeat (first | exact (Kd.R_reads' HO_123001.out).2.2 | (with_reducible refine Kd.C_alloc ?_ _) | (with_reducible refine Kd.C_drewN ?_ _) | (with_reducible refine Kd.C_drew ?_))); (case side4 => exact (Kd.R_reads' HO_123001.out).2.1); (case side5 => repeat (first | exact (Kd.R_reads' HO_123002.out).2.2 | (with_reducible refine Kd.C_alloc ?_ _) | (with_reducible refine Kd.C_drewN ?_ _) | (with_reducible refine Kd.C_drew ?_))); (case side6 => exact (Kd.R_reads' HO_123002.out).2.1); (case side7 => exact Kd.C_nil _ _); (case side8 => exact Nat.le_refl _); rintro e w65 ⟨rfl, hb⟩; have n0_ := Aside0.mk (Kd.R_below (by (with_reducible repeat (first | apply Kd.R_alloc | apply Kd.R_drewN | apply Kd.R_drew)); exact HO_123000.out) hb); have n1_ := Aside0.mk (Kd.R_below (by (with_reducible repeat (first | apply Kd.R_alloc | apply Kd.R_drewN | apply Kd.R_drew)); exact HO_123001.out) hb); have n2_ := Aside0.mk (Kd.R_below (by (with_reducible repeat (first | apply Kd.R_alloc | apply Kd.R_drewN | apply Kd.R_drew)); exact HO_123002.out) hb); have n3_ := Aside0.mk (blk_below (g := gb122) (o := .cells #[.slice Ao61 x123000_1.length co61, .slice Ao62 x123001_1.length co62, .slice Ao58 x123002_1.length co58, .slice none 0 0] 28 (0, 0)) (by (with_reducible repeat (first | refine blk_drewN ?_ _ | refine blk_drew ?_ | refine blk_alloc ?_ _)); exact BK122.out) hb); have n4_ := Aside0.mk (below_step (by repeat (first | (with_reducible first | exact HB.out | apply below_alloc | apply pw_below_drewN | apply below_drew1 | refine below_set ?_ GE122.out) | exact HB.out)) hb); clear HO_123000; clear HO_123001; clear HO_123002; clear BK122; clear HB; have HO_123000 := n0_; have HO_123001 := n1_; have HO_123002 := n2_; have BK122 := n3_; have HB := n4_; clear n0_ n1_ n2_ n3_ n4_; (try clear hb); (try clear hb2); (try clear hk); (try clear hi)))
                  go_ret
                  exact ⟨by first | rfl | (simp [errW_none, errW_some] <;> rfl) | (simp [*, errW_none, errW_some] <;> rfl), by repeat (first | (with_reducible first | exact HB.out | apply below_alloc | apply pw_below_drewN | apply below_drew1 | refine below_set ?_ GE122.out) | exact HB.out)⟩
                · rw [if_neg c55] at H
                  have c55b0 : ((t141 == 0) == (decide ((wrap64 ((wrap64 ((rd y116 t119) + t121)) - 1)) ≤ (rd y116 t119)))) = false := by simpa using c55
                  (try (have c55b1 : decide ((t141 == 0) = (decide ((wrap64 ((wrap64 ((rd y116 t119) + t121)) - 1)) ≤ (rd y116 t119)))) = false := by simpa using c55))
                  (try (have c55b2 : ((t141 == 0) == (decide ((wrap64 ((wrap64 ((rd y116 t119) + t121)) - 1)) ≤ (rd y116 t119)))) = false := by simpa using c55))
                  (try (have c55b3 : ¬ ((t141 == 0) = (decide ((wrap64 ((wrap64 ((rd y116 t119) + t121)) - 1)) ≤ (rd y116 t119)))) := by simpa using c55))
                  clear c55
                  obtain rfl := Option.some.inj H
                  exact absurd hr_.out (by decide)
              · replace c53 := Bool.eq_false_iff.mpr c53
                subst c53
                have H1 : (some false) = some r := by rw [if_neg (show ¬ (false = true) by decide)] at H; exact H
                clear H
                have H := H1
                clear H1
                obtain rfl := Option.some.inj H
                exact absurd hr_.out (by decide)
    · rw [if_neg c5] at H
      exact absurd H (by simp)
  · rw [if_neg c4] at H
    exact absurd H (by simp)

/-- THE ONE PURE STATEMENT of railplanlaw4_LayoutLimits: yours. -/
def railplanlaw4_LayoutLimits.Pure : Prop := ∀ (a0 : Int) (a1 : Int), (Lit.int .i64 a0).wf = true → (Lit.int .i64 a1).wf = true → ∃ k, railplanlaw4_LayoutLimits.f k a0 a1 = some true
theorem railplanlaw4_LayoutLimits.walk (P : railplanlaw4_LayoutLimits.Pure) (a0 : Int) (a1 : Int) (w : World) (w0 : (Lit.int .i64 a0).wf = true) (w1 : (Lit.int .i64 a1).wf = true) :
    Calls Try.prog 3 #[.int .i64 a0, .int .i64 a1] w fun e w' => e = .returned (.bool true) ∧ Below w.heap.size w w' := by
  obtain ⟨k, h⟩ := P a0 a1 w0 w1
  refine (railplanlaw4_LayoutLimits.calls k a0 a1 true w ⟨rfl⟩ h).mono ?_
  rintro e w' ⟨rfl, hd⟩
  exact ⟨rfl, hd⟩

end Go.Proofs.Ytkegdgdkfbmabaa.X
