/- Written by a program of this claim. Proved: each Go function named below, called with any arguments at which its Lean function answers, returns that answer; or, of a law, its given statement. -/
import Derived.Test.YtnmbljpifadipaaDoorX0
import Derived.Test.YtnmbljpifadipaaDoorX3
import Derived.Test.YtnmbljpifadipaaDoorX4
import Derived.Test.YtnmbljpifadipaaDoorX7
namespace Go.Proofs.YtnmbljpifadipaaDoor.X
open Go.RowKit Go.Proofs.YtnmbljpifadipaaDoorW Go.Proofs.YtnmbljpifadipaaDoorW.PrintWords Go.Proofs.YtnmbljpifadipaaDoorW.PrintLast Go.Proofs.YtnmbljpifadipaaDoorW.PrintMore
attribute [local go_sem] max2_int min2_int max_two min_two max_three min_three max_four min_four   -- for this text's walks alone
set_option linter.unusedVariables false
set_option linter.unusedSimpArgs false

/-! ### railplanref1_letter: function 35 -/
def railplanref1_letter.f (a0 : Int) : Option (Bool) := if a0 ≥ 97 then (if a0 ≤ 122 then (some true) else (if a0 ≥ 65 then (some (decide (a0 ≤ 90))) else (some false))) else (if a0 ≥ 65 then (some (decide (a0 ≤ 90))) else (some false))
set_option maxHeartbeats 8000000 in
set_option maxRecDepth 100000 in
theorem railplanref1_letter.calls (a0 : Int) (r : Bool) (w : World) (h : railplanref1_letter.f a0 = some r) :
    Calls Tryd.prog 35 #[.int .u8 a0] w fun e w' => e = .returned (.bool r) ∧ Drawn0 w w' := by
  have H : (if a0 ≥ 97 then (if a0 ≤ 122 then (some true) else (if a0 ≥ 65 then (some (decide (a0 ≤ 90))) else (some false))) else (if a0 ≥ 65 then (some (decide (a0 ≤ 90))) else (some false))) = some r := h
  clear h
  by_cases c2 : a0 ≥ 97
  · rw [if_pos c2] at H
    have c2b0 : decide (97 ≤ a0) = true := decide_eq_true c2
    clear c2
    by_cases c3 : a0 ≤ 122
    · rw [if_pos c3] at H
      have c3b0 : decide (a0 ≤ 122) = true := decide_eq_true c3
      clear c3
      obtain rfl := Option.some.inj H
      simp only [Option.some.injEq, Prod.mk.injEq] at H
      obtain ⟨rfl⟩ := H
      go_enter Tryd.func35, Tryd.ntmps35
      go_wp2
      go_ret
      exact ⟨by first | rfl | (simp; done) | (simp [*]; done), by repeat (first | exact Drawn0.refl _ | apply Drawn0.step)⟩
    · rw [if_neg c3] at H
      have c3b0 : decide (a0 ≤ 122) = false := decide_eq_false c3
      clear c3
      by_cases c4 : a0 ≥ 65
      · rw [if_pos c4] at H
        have c4b0 : decide (65 ≤ a0) = true := decide_eq_true c4
        clear c4
        obtain rfl := Option.some.inj H
        simp only [Option.some.injEq, Prod.mk.injEq] at H
        obtain ⟨rfl⟩ := H
        go_enter Tryd.func35, Tryd.ntmps35
        go_wp2
        go_ret
        exact ⟨by first | rfl | (simp; done) | (simp [*]; done), by repeat (first | exact Drawn0.refl _ | apply Drawn0.step)⟩
      · rw [if_neg c4] at H
        have c4b0 : decide (65 ≤ a0) = false := decide_eq_false c4
        clear c4
        obtain rfl := Option.some.inj H
        simp only [Option.some.injEq, Prod.mk.injEq] at H
        obtain ⟨rfl⟩ := H
        go_enter Tryd.func35, Tryd.ntmps35
        go_wp2
        go_ret
        exact ⟨by first | rfl | (simp; done) | (simp [*]; done), by repeat (first | exact Drawn0.refl _ | apply Drawn0.step)⟩
  · rw [if_neg c2] at H
    have c2b0 : decide (97 ≤ a0) = false := decide_eq_false c2
    clear c2
    by_cases c5 : a0 ≥ 65
    · rw [if_pos c5] at H
      have c5b0 : decide (65 ≤ a0) = true := decide_eq_true c5
      clear c5
      obtain rfl := Option.some.inj H
      simp only [Option.some.injEq, Prod.mk.injEq] at H
      obtain ⟨rfl⟩ := H
      go_enter Tryd.func35, Tryd.ntmps35
      go_wp2
      go_ret
      exact ⟨by first | rfl | (simp; done) | (simp [*]; done), by repeat (first | exact Drawn0.refl _ | apply Drawn0.step)⟩
    · rw [if_neg c5] at H
      have c5b0 : decide (65 ≤ a0) = false := decide_eq_false c5
      clear c5
      obtain rfl := Option.some.inj H
      simp only [Option.some.injEq, Prod.mk.injEq] at H
      obtain ⟨rfl⟩ := H
      go_enter Tryd.func35, Tryd.ntmps35
      go_wp2
      go_ret
      exact ⟨by first | rfl | (simp; done) | (simp [*]; done), by repeat (first | exact Drawn0.refl _ | apply Drawn0.step)⟩

/-! ### railplanref1_Name: function 20 -/
mutual
def railplanref1_Name.j0 : Nat → ByteArray → Bool → Option (Bool)
  | 0, _, _ => none
  | k + 1, x0, x17 => if x17 = true then (some false) else (railplanref1_Name.l0 k x0 1)
def railplanref1_Name.l0 : Nat → ByteArray → Int → Option (Bool)
  | 0, _, _ => none
  | k + 1, x0, x3 => if x3 < (x0.size : Int) then (if 0 ≤ x3 then ((railplanref1_letter.f (bt x0 x3)).bind fun t143 => (if t143 = true then (railplanref1_Name.l0 k x0 (wrap64 (x3 + 1))) else ((railplanref1_digit.f (bt x0 x3)).bind fun t144 => (if t144 = true then (railplanref1_Name.l0 k x0 (wrap64 (x3 + 1))) else (if (bt x0 x3) = 95 then (railplanref1_Name.l0 k x0 (wrap64 (x3 + 1))) else (some false)))))) else (none)) else (some true)
end
def railplanref1_Name.f (k : Nat) (a0 : ByteArray) : Option (Bool) := if (a0.size : Int) < 1 then (railplanref1_Name.j0 k a0 true) else (if (a0.size : Int) > 12 then (railplanref1_Name.j0 k a0 true) else (if 0 < (a0.size : Int) then ((railplanref1_letter.f (bt a0 0)).bind fun t142 => (railplanref1_Name.j0 k a0 (!t142))) else (none)))
theorem railplanref1_Name.mono_l : ∀ k, (∀ y0 y1, LeO (railplanref1_Name.j0 k y0 y1) (railplanref1_Name.j0 (k + 1) y0 y1)) ∧ (∀ y0 y1, LeO (railplanref1_Name.l0 k y0 y1) (railplanref1_Name.l0 (k + 1) y0 y1))
  | 0 => ⟨fun _ _ r h => by simp [railplanref1_Name.j0] at h, fun _ _ r h => by simp [railplanref1_Name.l0] at h⟩
  | k + 1 => by
    obtain ⟨ih0, ih1⟩ := railplanref1_Name.mono_l k
    refine ⟨?_, ?_⟩
    · intro y0 y1
      unfold railplanref1_Name.j0
      repeat' first
      | (with_reducible exact ih0 _ _)
      | (with_reducible exact ih1 _ _)
      | (with_reducible exact LeO.refl _)
      | (with_reducible exact LeO.none _)
      | (with_reducible refine LeO.ite ?_ ?_)
      | (with_reducible refine LeO.bind ?_ (fun _ => ?_))
      | exact ih0 _ _
      | exact ih1 _ _
      | exact LeO.none _
      | refine LeO.ite ?_ ?_
      | refine LeO.bind ?_ (fun _ => ?_)
    · intro y0 y1
      unfold railplanref1_Name.l0
      repeat' first
      | (with_reducible exact ih0 _ _)
      | (with_reducible exact ih1 _ _)
      | (with_reducible exact LeO.refl _)
      | (with_reducible exact LeO.none _)
      | (with_reducible refine LeO.ite ?_ ?_)
      | (with_reducible refine LeO.bind ?_ (fun _ => ?_))
      | exact ih0 _ _
      | exact ih1 _ _
      | exact LeO.none _
      | refine LeO.ite ?_ ?_
      | refine LeO.bind ?_ (fun _ => ?_)
theorem railplanref1_Name.mono : ∀ a0 k, LeO (railplanref1_Name.f k a0) (railplanref1_Name.f (k + 1) a0) := by
  intro a0 k
  obtain ⟨ih0, ih1⟩ := railplanref1_Name.mono_l k
  unfold railplanref1_Name.f
  repeat' first
      | (with_reducible exact ih0 _ _)
      | (with_reducible exact ih1 _ _)
      | (with_reducible exact LeO.refl _)
      | (with_reducible exact LeO.none _)
      | (with_reducible refine LeO.ite ?_ ?_)
      | (with_reducible refine LeO.bind ?_ (fun _ => ?_))
      | exact ih0 _ _
      | exact ih1 _ _
      | exact LeO.none _
      | refine LeO.ite ?_ ?_
      | refine LeO.bind ?_ (fun _ => ?_)
set_option maxHeartbeats 8000000 in
set_option maxRecDepth 100000 in
theorem railplanref1_Name.calls (k : Nat) (a0 : ByteArray) (r : Bool) (w : World) (h : railplanref1_Name.f k a0 = some r) :
    Calls Tryd.prog 20 #[.string a0] w fun e w' => e = .returned (.bool r) ∧ Drawn0 w w' := by
  have H : (if (a0.size : Int) < 1 then (railplanref1_Name.j0 k a0 true) else (if (a0.size : Int) > 12 then (railplanref1_Name.j0 k a0 true) else (if 0 < (a0.size : Int) then ((railplanref1_letter.f (bt a0 0)).bind fun t142 => (railplanref1_Name.j0 k a0 (!t142))) else (none)))) = some r := h
  clear h
  have HC2 := Aside0.mk H
  clear H
  go_enter Tryd.func20, Tryd.ntmps20
  go_upto_region 1 with (fail)
  go_cut [17] (fun v17 wc => ∃ (kq : Nat) (x17_1 : Bool), v17 = .bool x17_1 ∧ Aside0 (railplanref1_Name.j0 kq a0 x17_1 = some r) ∧ Aside0 (kq ≤ k) ∧ Drawn0 w wc)
  case first =>
    have H := HC2.out
    clear HC2
    by_cases c3 : (a0.size : Int) < 1
    · rw [if_pos c3] at H
      have c3b0 : decide ((a0.size : Int) < 1) = true := decide_eq_true c3
      have c3b1 : decide (a0.size < 1) = true := decide_eq_true (by omega)
      clear c3
      (first | rw [c3b0] | (simp only [i64_w, i32_w]; rw [c3b0]) | rw [c3b1] | skip)
      have H' := Aside0.mk H
      clear H
      go_wp2
      go_meet
      case rel => exact ⟨_, (true), (by first | rfl | (simp; done) | (simp [*]; done)), H', ⟨by first | omega | exact Nat.le_refl _⟩, by repeat (first | exact Drawn0.refl _ | apply Drawn0.step)⟩
    · rw [if_neg c3] at H
      have c3b0 : decide ((a0.size : Int) < 1) = false := decide_eq_false c3
      have c3b1 : decide (a0.size < 1) = false := decide_eq_false (by omega)
      clear c3
      (first | rw [c3b0] | (simp only [i64_w, i32_w]; rw [c3b0]) | rw [c3b1] | skip)
      by_cases c4 : (a0.size : Int) > 12
      · rw [if_pos c4] at H
        have c4b0 : decide (12 < (a0.size : Int)) = true := decide_eq_true c4
        have c4b1 : decide (12 < a0.size) = true := decide_eq_true (by omega)
        clear c4
        have H' := Aside0.mk H
        clear H
        go_wp2
        go_meet
        case rel => exact ⟨_, (true), (by first | rfl | (simp; done) | (simp [*]; done)), H', ⟨by first | omega | exact Nat.le_refl _⟩, by repeat (first | exact Drawn0.refl _ | apply Drawn0.step)⟩
      · rw [if_neg c4] at H
        have c4b0 : decide (12 < (a0.size : Int)) = false := decide_eq_false c4
        have c4b1 : decide (12 < a0.size) = false := decide_eq_false (by omega)
        clear c4
        by_cases c5 : 0 < (a0.size : Int)
        · rw [if_pos c5] at H
          have c5b0 : decide (0 < (a0.size : Int)) = true := decide_eq_true c5
          have c5b1 : decide (0 < a0.size) = true := decide_eq_true (by omega)
          clear c5
          replace H := Option.bind_eq_some_iff.mp H
          obtain ⟨t142, A70, H⟩ := H
          replace H : (railplanref1_Name.j0 k a0 (!t142)) = some r := H
          have A7 := Aside0.mk A70
          clear A70
          have H' := Aside0.mk H
          clear H
          have p6 : 0 ≤ (0 : Int) := (by omega)
          have q6 : 0 < a0.size := (by have : (0 : Int) < (a0.size : Int) := of_decide_eq_true (by first | (with_reducible assumption) | assumption); omega)
          have hx6 : ∀ h : 0 < a0.size, ((a0[0]'h).toNat : Int) = bt a0 0 := bt_at a0 0
          clear p6
          have qi6 : (0 < (a0.size : Int)) = True := eq_true (of_decide_eq_true (by first | (with_reducible assumption) | assumption))
          replace q6 := eq_true q6
          go_wp2_with (first | (go_at_call 35; (with_reducible refine (railplanref1_letter.calls (bt a0 0) t142 _ A7.out).mono ?_); rintro e w' ⟨rfl, ⟨nd, rfl⟩⟩))
          go_meet
          case rel => exact ⟨_, (!t142), (by first | rfl | (simp; done) | (simp [*]; done)), H', ⟨by first | omega | exact Nat.le_refl _⟩, by repeat (first | exact Drawn0.refl _ | apply Drawn0.step)⟩
        · rw [if_neg c5] at H
          exact absurd H (by simp)
  case rest =>
    clear HC2
    try clear c2
    try clear p2
    try clear c3
    try clear c3b0
    try clear c3b1
    try clear c4
    try clear c4b0
    try clear c4b1
    try clear c5
    try clear c5b0
    try clear c5b1
    try clear p6
    try clear q6
    try clear hx6
    try clear qi6
    try clear p6
    try clear q6
    obtain ⟨kq, x17_1, rfl, HA, HJ1, ⟨mc1, rfl⟩⟩ := hcut
    cases kq with
    | zero => exact absurd HA.out (by simp [railplanref1_Name.j0])
    | succ kj1 =>
      have H := HA.out
      clear HA
      simp only [railplanref1_Name.j0] at H
      by_cases c8 : x17_1 = true
      · subst c8
        have H1 : (some false) = some r := by rw [if_pos rfl] at H; exact H
        clear H
        have H := H1
        clear H1
        obtain rfl := Option.some.inj H
        simp only [Option.some.injEq, Prod.mk.injEq] at H
        obtain ⟨rfl⟩ := H
        go_wp2
        go_ret
        exact ⟨by first | rfl | (simp; done) | (simp [*]; done), by repeat (first | exact Drawn0.refl _ | apply Drawn0.step)⟩
      · replace c8 := Bool.eq_false_iff.mpr c8
        subst c8
        have H1 : (railplanref1_Name.l0 kj1 a0 1) = some r := by rw [if_neg (show ¬ (false = true) by decide)] at H; exact H
        clear H
        have H := H1
        clear H1
        have H' := Aside0.mk H
        clear H
        go_wp2
        go_loopg [3] kj1 (fun kq v3 w' => ∃ (x3_2 : Int), v3 = .int .i64 x3_2 ∧ Aside0 (railplanref1_Name.l0 kq a0 x3_2 = some r) ∧ Aside0 (kq ≤ kj1) ∧ Drawn0 w w')
        case atStart => exact ⟨(1), (by first | rfl | (simp; done) | (simp [*]; done)), H', ⟨Nat.le_refl _⟩, by repeat (first | exact Drawn0.refl _ | apply Drawn0.step)⟩
        case round =>
          clear H'
          try clear c1
          try clear c2
          try clear p2
          try clear c3
          try clear c3b0
          try clear c3b1
          try clear c4
          try clear c4b0
          try clear c4b1
          try clear c5
          try clear c5b0
          try clear c5b1
          try clear p6
          try clear q6
          try clear hx6
          try clear qi6
          try clear c8
          try clear p2
          try clear p6
          try clear q6
          obtain ⟨x3_2, rfl, HA, HK2, ⟨m2, rfl⟩⟩ := hrel
          cases gk with
          | zero => exact absurd HA.out (by simp [railplanref1_Name.l0])
          | succ k2 =>
            have H := HA.out
            clear HA
            simp only [railplanref1_Name.l0] at H
            by_cases c9 : x3_2 < (a0.size : Int)
            · rw [if_pos c9] at H
              have c9b0 : decide (x3_2 < (a0.size : Int)) = true := decide_eq_true c9
              clear c9
              by_cases c10 : 0 ≤ x3_2
              · rw [if_pos c10] at H
                have c10b0 : decide (0 ≤ x3_2) = true := decide_eq_true c10
                clear c10
                replace H := Option.bind_eq_some_iff.mp H
                obtain ⟨t143, A120, H⟩ := H
                replace H : (if t143 = true then (railplanref1_Name.l0 k2 a0 (wrap64 (x3_2 + 1))) else ((railplanref1_digit.f (bt a0 x3_2)).bind fun t144 => (if t144 = true then (railplanref1_Name.l0 k2 a0 (wrap64 (x3_2 + 1))) else (if (bt a0 x3_2) = 95 then (railplanref1_Name.l0 k2 a0 (wrap64 (x3_2 + 1))) else (some false))))) = some r := H
                have A12 := Aside0.mk A120
                clear A120
                by_cases c13 : t143 = true
                · subst c13
                  have H1 : (railplanref1_Name.l0 k2 a0 (wrap64 (x3_2 + 1))) = some r := by rw [if_pos rfl] at H; exact H
                  clear H
                  have H := H1
                  clear H1
                  have H' := Aside0.mk H
                  clear H
                  have p11 : 0 ≤ (x3_2 : Int) := of_decide_eq_true (by first | (with_reducible assumption) | assumption)
                  have q11 : x3_2 < (a0.size : Int) := of_decide_eq_true (by first | (with_reducible assumption) | assumption)
                  have hx11 := bt_at a0 x3_2
                  replace p11 := eq_true p11
                  replace q11 := eq_true q11
                  go_wp2_with (first | ((with_reducible refine gate_callee (f := 35) rfl ?_); refine goesL_ (some 27) rfl rfl Tryd.func35 (by kernel_rfl) rfl #[.int .u8 (bt a0 x3_2)] rfl (by (try simp only [List.map_toArray, List.map_cons, List.map_nil]); first | done | rfl | (simp only [List.length_drop, List.length_take]; rfl)) ?_; (with_reducible refine (railplanref1_letter.calls (bt a0 x3_2) true _ A12.out).mono ?_); rintro e w' ⟨rfl, ⟨nd, rfl⟩⟩; refine ⟨_, rfl, ?_⟩))
                  go_roundg k2
                  case measure => have := HJ1.out; have := HK2.out; omega
                  case rel => exact ⟨(wrap64 (x3_2 + 1)), (by first | rfl | (simp; done) | (simp [*]; done)), H', ⟨by have := HJ1.out; have := HK2.out; omega⟩, by repeat (first | exact Drawn0.refl _ | apply Drawn0.step)⟩
                · replace c13 := Bool.eq_false_iff.mpr c13
                  subst c13
                  have H1 : ((railplanref1_digit.f (bt a0 x3_2)).bind fun t144 => (if t144 = true then (railplanref1_Name.l0 k2 a0 (wrap64 (x3_2 + 1))) else (if (bt a0 x3_2) = 95 then (railplanref1_Name.l0 k2 a0 (wrap64 (x3_2 + 1))) else (some false)))) = some r := by rw [if_neg (show ¬ (false = true) by decide)] at H; exact H
                  clear H
                  have H := H1
                  clear H1
                  replace H := Option.bind_eq_some_iff.mp H
                  obtain ⟨t144, A150, H⟩ := H
                  replace H : (if t144 = true then (railplanref1_Name.l0 k2 a0 (wrap64 (x3_2 + 1))) else (if (bt a0 x3_2) = 95 then (railplanref1_Name.l0 k2 a0 (wrap64 (x3_2 + 1))) else (some false))) = some r := H
                  have A15 := Aside0.mk A150
                  clear A150
                  by_cases c16 : t144 = true
                  · subst c16
                    have H1 : (railplanref1_Name.l0 k2 a0 (wrap64 (x3_2 + 1))) = some r := by rw [if_pos rfl] at H; exact H
                    clear H
                    have H := H1
                    clear H1
                    have H' := Aside0.mk H
                    clear H
                    have p11 : 0 ≤ (x3_2 : Int) := of_decide_eq_true (by first | (with_reducible assumption) | assumption)
                    have q11 : x3_2 < (a0.size : Int) := of_decide_eq_true (by first | (with_reducible assumption) | assumption)
                    have hx11 := bt_at a0 x3_2
                    replace p11 := eq_true p11
                    replace q11 := eq_true q11
                    go_wp2_with (first | ((with_reducible refine gate_callee (f := 35) rfl ?_); refine goesL_ (some 27) rfl rfl Tryd.func35 (by kernel_rfl) rfl #[.int .u8 (bt a0 x3_2)] rfl (by (try simp only [List.map_toArray, List.map_cons, List.map_nil]); first | done | rfl | (simp only [List.length_drop, List.length_take]; rfl)) ?_; (with_reducible refine (railplanref1_letter.calls (bt a0 x3_2) false _ A12.out).mono ?_); rintro e w' ⟨rfl, ⟨nd, rfl⟩⟩; refine ⟨_, rfl, ?_⟩; have p14 : 0 ≤ (x3_2 : Int) := of_decide_eq_true (by first | (with_reducible assumption) | assumption); have q14 : x3_2 < (a0.size : Int) := of_decide_eq_true (by first | (with_reducible assumption) | assumption); have hx14 := bt_at a0 x3_2; replace p14 := eq_true p14; replace q14 := eq_true q14) | (go_at_call 36; (with_reducible refine (railplanref1_digit.calls (bt a0 x3_2) true _ A15.out).mono ?_); rintro e w' ⟨rfl, ⟨nd, rfl⟩⟩))
                    go_roundg k2
                    case measure => have := HJ1.out; have := HK2.out; omega
                    case rel => exact ⟨(wrap64 (x3_2 + 1)), (by first | rfl | (simp; done) | (simp [*]; done)), H', ⟨by have := HJ1.out; have := HK2.out; omega⟩, by repeat (first | exact Drawn0.refl _ | apply Drawn0.step)⟩
                  · replace c16 := Bool.eq_false_iff.mpr c16
                    subst c16
                    have H1 : (if (bt a0 x3_2) = 95 then (railplanref1_Name.l0 k2 a0 (wrap64 (x3_2 + 1))) else (some false)) = some r := by rw [if_neg (show ¬ (false = true) by decide)] at H; exact H
                    clear H
                    have H := H1
                    clear H1
                    by_cases c18 : (bt a0 x3_2) = 95
                    · rw [if_pos c18] at H
                      have c18b0 : ((bt a0 x3_2) == 95) = true := beq_iff_eq.mpr c18
                      have c18b1 : ((bt a0 x3_2) != 95) = false := bne_eq_false_iff_eq.mpr c18
                      clear c18
                      have H' := Aside0.mk H
                      clear H
                      have p11 : 0 ≤ (x3_2 : Int) := of_decide_eq_true (by first | (with_reducible assumption) | assumption)
                      have q11 : x3_2 < (a0.size : Int) := of_decide_eq_true (by first | (with_reducible assumption) | assumption)
                      have hx11 := bt_at a0 x3_2
                      replace p11 := eq_true p11
                      replace q11 := eq_true q11
                      go_wp2_with (first | ((with_reducible refine gate_callee (f := 35) rfl ?_); refine goesL_ (some 27) rfl rfl Tryd.func35 (by kernel_rfl) rfl #[.int .u8 (bt a0 x3_2)] rfl (by (try simp only [List.map_toArray, List.map_cons, List.map_nil]); first | done | rfl | (simp only [List.length_drop, List.length_take]; rfl)) ?_; (with_reducible refine (railplanref1_letter.calls (bt a0 x3_2) false _ A12.out).mono ?_); rintro e w' ⟨rfl, ⟨nd, rfl⟩⟩; refine ⟨_, rfl, ?_⟩; have p14 : 0 ≤ (x3_2 : Int) := of_decide_eq_true (by first | (with_reducible assumption) | assumption); have q14 : x3_2 < (a0.size : Int) := of_decide_eq_true (by first | (with_reducible assumption) | assumption); have hx14 := bt_at a0 x3_2; replace p14 := eq_true p14; replace q14 := eq_true q14) | (go_at_call 36; (with_reducible refine (railplanref1_digit.calls (bt a0 x3_2) false _ A15.out).mono ?_); rintro e w' ⟨rfl, ⟨nd, rfl⟩⟩; have p17 : 0 ≤ (x3_2 : Int) := of_decide_eq_true (by first | (with_reducible assumption) | assumption); have q17 : x3_2 < (a0.size : Int) := of_decide_eq_true (by first | (with_reducible assumption) | assumption); have hx17 := bt_at a0 x3_2; replace p17 := eq_true p17; replace q17 := eq_true q17))
                      go_roundg k2
                      case measure => have := HJ1.out; have := HK2.out; omega
                      case rel => exact ⟨(wrap64 (x3_2 + 1)), (by first | rfl | (simp; done) | (simp [*]; done)), H', ⟨by have := HJ1.out; have := HK2.out; omega⟩, by repeat (first | exact Drawn0.refl _ | apply Drawn0.step)⟩
                    · rw [if_neg c18] at H
                      have c18b0 : ((bt a0 x3_2) == 95) = false := beq_eq_false_iff_ne.mpr c18
                      have c18b1 : ((bt a0 x3_2) != 95) = true := bne_iff_ne.mpr c18
                      obtain rfl := Option.some.inj H
                      simp only [Option.some.injEq, Prod.mk.injEq] at H
                      obtain ⟨rfl⟩ := H
                      have p11 : 0 ≤ (x3_2 : Int) := of_decide_eq_true (by first | (with_reducible assumption) | assumption)
                      have q11 : x3_2 < (a0.size : Int) := of_decide_eq_true (by first | (with_reducible assumption) | assumption)
                      have hx11 := bt_at a0 x3_2
                      replace p11 := eq_true p11
                      replace q11 := eq_true q11
                      go_wp2_with (first | ((with_reducible refine gate_callee (f := 35) rfl ?_); refine goesL_ (some 27) rfl rfl Tryd.func35 (by kernel_rfl) rfl #[.int .u8 (bt a0 x3_2)] rfl (by (try simp only [List.map_toArray, List.map_cons, List.map_nil]); first | done | rfl | (simp only [List.length_drop, List.length_take]; rfl)) ?_; (with_reducible refine (railplanref1_letter.calls (bt a0 x3_2) false _ A12.out).mono ?_); rintro e w' ⟨rfl, ⟨nd, rfl⟩⟩; refine ⟨_, rfl, ?_⟩; have p14 : 0 ≤ (x3_2 : Int) := of_decide_eq_true (by first | (with_reducible assumption) | assumption); have q14 : x3_2 < (a0.size : Int) := of_decide_eq_true (by first | (with_reducible assumption) | assumption); have hx14 := bt_at a0 x3_2; replace p14 := eq_true p14; replace q14 := eq_true q14) | (go_at_call 36; (with_reducible refine (railplanref1_digit.calls (bt a0 x3_2) false _ A15.out).mono ?_); rintro e w' ⟨rfl, ⟨nd, rfl⟩⟩; have p17 : 0 ≤ (x3_2 : Int) := of_decide_eq_true (by first | (with_reducible assumption) | assumption); have q17 : x3_2 < (a0.size : Int) := of_decide_eq_true (by first | (with_reducible assumption) | assumption); have hx17 := bt_at a0 x3_2; replace p17 := eq_true p17; replace q17 := eq_true q17))
                      go_ret
                      exact ⟨by first | rfl | (simp; done) | (simp [*]; done), by repeat (first | exact Drawn0.refl _ | apply Drawn0.step)⟩
              · rw [if_neg c10] at H
                exact absurd H (by simp)
            · rw [if_neg c9] at H
              have c9b0 : decide (x3_2 < (a0.size : Int)) = false := decide_eq_false c9
              clear c9
              obtain rfl := Option.some.inj H
              simp only [Option.some.injEq, Prod.mk.injEq] at H
              obtain ⟨rfl⟩ := H
              go_wp2
              go_ret
              exact ⟨by first | rfl | (simp; done) | (simp [*]; done), by repeat (first | exact Drawn0.refl _ | apply Drawn0.step)⟩

/-! ### railplanlaw3_WordsNames: function 4 -/
def railplanlaw3_WordsNames.f (k : Nat) (a0 : ByteArray) (l1 : List Int) : Option (Bool) := (railplanlaw3_pieces.f k l1).bind fun t145 => (if 0 ≤ (mn (t145.size : Int) 14) then (if (mn (t145.size : Int) 14) ≤ (t145.size : Int) then ((railplanlaw3_awake.f k).bind fun t146 => (if t146 = true then ((words_Name.f k a0).bind fun t147 => ((railplanref1_Name.f k a0).bind fun t148 => (if (t147 == t148) = true then ((words_Name.f k (t145.extract 0 ((mn (t145.size : Int) 14) : Int).toNat)).bind fun t149 => ((railplanref1_Name.f k (t145.extract 0 ((mn (t145.size : Int) 14) : Int).toNat)).bind fun t150 => (if (t149 == t150) = true then (if 1 + (t145.extract 0 ((mn (t145.size : Int) 14) : Int).toNat).size ≤ 9223372036854775807 then ((words_Name.f k ((⟨#[97]⟩ : ByteArray) ++ (t145.extract 0 ((mn (t145.size : Int) 14) : Int).toNat))).bind fun t151 => ((railplanref1_Name.f k ((⟨#[97]⟩ : ByteArray) ++ (t145.extract 0 ((mn (t145.size : Int) 14) : Int).toNat))).bind fun t152 => (some (t151 == t152)))) else (none)) else (some false)))) else (some false)))) else (some false))) else (none)) else (none))
theorem railplanlaw3_WordsNames.mono : ∀ a0 a1 k, LeO (railplanlaw3_WordsNames.f k a0 a1) (railplanlaw3_WordsNames.f (k + 1) a0 a1) := by
  intro a0 a1 k
  unfold railplanlaw3_WordsNames.f
  repeat' first
      | (with_reducible exact railplanlaw3_awake.mono _)
      | (with_reducible exact railplanlaw3_pieces.mono _ _)
      | (with_reducible exact railplanref1_Name.mono _ _)
      | (with_reducible exact words_Name.mono _ _)
      | (with_reducible exact LeO.refl _)
      | (with_reducible exact LeO.none _)
      | (with_reducible refine LeO.ite ?_ ?_)
      | (with_reducible refine LeO.bind ?_ (fun _ => ?_))
      | exact railplanlaw3_awake.mono _
      | exact railplanlaw3_pieces.mono _ _
      | exact railplanref1_Name.mono _ _
      | exact words_Name.mono _ _
      | exact LeO.none _
      | refine LeO.ite ?_ ?_
      | refine LeO.bind ?_ (fun _ => ?_)
set_option maxHeartbeats 8000000 in
set_option maxRecDepth 100000 in
theorem railplanlaw3_WordsNames.calls (k : Nat) (a0 : ByteArray) (A1 : Option Addr) (c1 : Nat) (l1 : List Int) (r : Bool) (w : World) (hr1 : Kd.C (Kd.int .u8) w A1 l1.length l1) (hc1 : l1.length ≤ c1) (hL_ : Aside0 (Laid w)) (hr_ : Aside0 (r = true)) (h : railplanlaw3_WordsNames.f k a0 l1 = some r) :
    Calls Tryd.prog 4 #[.string a0, .slice A1 l1.length c1] w fun e w' => e = .returned (.bool r) ∧ Below w.heap.size w w' := by
  have HR1 := Aside0.mk hr1
  have HC1 := Aside0.mk hc1
  clear hr1 hc1
  have HB := Aside0.mk (Below.refl w.heap.size w)
  have H : ((railplanlaw3_pieces.f k l1).bind fun t145 => (if 0 ≤ (mn (t145.size : Int) 14) then (if (mn (t145.size : Int) 14) ≤ (t145.size : Int) then ((railplanlaw3_awake.f k).bind fun t146 => (if t146 = true then ((words_Name.f k a0).bind fun t147 => ((railplanref1_Name.f k a0).bind fun t148 => (if (t147 == t148) = true then ((words_Name.f k (t145.extract 0 ((mn (t145.size : Int) 14) : Int).toNat)).bind fun t149 => ((railplanref1_Name.f k (t145.extract 0 ((mn (t145.size : Int) 14) : Int).toNat)).bind fun t150 => (if (t149 == t150) = true then (if 1 + (t145.extract 0 ((mn (t145.size : Int) 14) : Int).toNat).size ≤ 9223372036854775807 then ((words_Name.f k ((⟨#[97]⟩ : ByteArray) ++ (t145.extract 0 ((mn (t145.size : Int) 14) : Int).toNat))).bind fun t151 => ((railplanref1_Name.f k ((⟨#[97]⟩ : ByteArray) ++ (t145.extract 0 ((mn (t145.size : Int) 14) : Int).toNat))).bind fun t152 => (some (t151 == t152)))) else (none)) else (some false)))) else (some false)))) else (some false))) else (none)) else (none))) = some r := h
  clear h
  replace H := Option.bind_eq_some_iff.mp H
  obtain ⟨t145, A30, H⟩ := H
  replace H : (if 0 ≤ (mn (t145.size : Int) 14) then (if (mn (t145.size : Int) 14) ≤ (t145.size : Int) then ((railplanlaw3_awake.f k).bind fun t146 => (if t146 = true then ((words_Name.f k a0).bind fun t147 => ((railplanref1_Name.f k a0).bind fun t148 => (if (t147 == t148) = true then ((words_Name.f k (t145.extract 0 ((mn (t145.size : Int) 14) : Int).toNat)).bind fun t149 => ((railplanref1_Name.f k (t145.extract 0 ((mn (t145.size : Int) 14) : Int).toNat)).bind fun t150 => (if (t149 == t150) = true then (if 1 + (t145.extract 0 ((mn (t145.size : Int) 14) : Int).toNat).size ≤ 9223372036854775807 then ((words_Name.f k ((⟨#[97]⟩ : ByteArray) ++ (t145.extract 0 ((mn (t145.size : Int) 14) : Int).toNat))).bind fun t151 => ((railplanref1_Name.f k ((⟨#[97]⟩ : ByteArray) ++ (t145.extract 0 ((mn (t145.size : Int) 14) : Int).toNat))).bind fun t152 => (some (t151 == t152)))) else (none)) else (some false)))) else (some false)))) else (some false))) else (none)) else (none)) = some r := H
  have A3 := Aside0.mk A30
  clear A30
  obtain ⟨ji4, hji4⟩ : ∃ j_ : Int, (mn (t145.size : Int) 14) = j_ := ⟨_, rfl⟩
  replace H : (if 0 ≤ (ji4) then (if (ji4) ≤ (t145.size : Int) then ((railplanlaw3_awake.f k).bind fun t146 => (if t146 = true then ((words_Name.f k a0).bind fun t147 => ((railplanref1_Name.f k a0).bind fun t148 => (if (t147 == t148) = true then ((words_Name.f k (t145.extract 0 ((ji4) : Int).toNat)).bind fun t149 => ((railplanref1_Name.f k (t145.extract 0 ((ji4) : Int).toNat)).bind fun t150 => (if (t149 == t150) = true then (if 1 + (t145.extract 0 ((ji4) : Int).toNat).size ≤ 9223372036854775807 then ((words_Name.f k ((⟨#[97]⟩ : ByteArray) ++ (t145.extract 0 ((ji4) : Int).toNat))).bind fun t151 => ((railplanref1_Name.f k ((⟨#[97]⟩ : ByteArray) ++ (t145.extract 0 ((ji4) : Int).toNat))).bind fun t152 => (some (t151 == t152)))) else (none)) else (some false)))) else (some false)))) else (some false))) else (none)) else (none)) = some r := by first | (rw [hji4] at H; exact H) | (simp only [hji4] at H ⊢; exact H)
  (try rw [hji4] at A3)
  (try (have hji4h : ji4 ≤ 14 := by (rw [← hji4]; unfold mn; (repeat' split) <;> omega)))
  (try (have hji4g : ji4 ≤ 64 := by omega))
  (try (have hji4l : 0 ≤ ji4 := by (rw [← hji4]; unfold mn; (repeat' split) <;> omega)))
  (try (have hji4m : 0 ≤ ji4 := by omega))
  have hji4_ : (if 14 < (t145.size : Int) then 14 else (t145.size : Int)) = ji4 := hji4
  by_cases c5 : 0 ≤ (ji4)
  · rw [if_pos c5] at H
    have c5b0 := eq_true c5
    have c5b1 : decide (0 ≤ (ji4)) = true := decide_eq_true c5
    clear c5
    by_cases c6 : (ji4) ≤ (t145.size : Int)
    · rw [if_pos c6] at H
      have c6b0 := eq_true c6
      have c6b1 : decide ((ji4) ≤ (t145.size : Int)) = true := decide_eq_true c6
      clear c6
      replace H := Option.bind_eq_some_iff.mp H
      obtain ⟨t146, A70, H⟩ := H
      replace H : (if t146 = true then ((words_Name.f k a0).bind fun t147 => ((railplanref1_Name.f k a0).bind fun t148 => (if (t147 == t148) = true then ((words_Name.f k (t145.extract 0 ((ji4) : Int).toNat)).bind fun t149 => ((railplanref1_Name.f k (t145.extract 0 ((ji4) : Int).toNat)).bind fun t150 => (if (t149 == t150) = true then (if 1 + (t145.extract 0 ((ji4) : Int).toNat).size ≤ 9223372036854775807 then ((words_Name.f k ((⟨#[97]⟩ : ByteArray) ++ (t145.extract 0 ((ji4) : Int).toNat))).bind fun t151 => ((railplanref1_Name.f k ((⟨#[97]⟩ : ByteArray) ++ (t145.extract 0 ((ji4) : Int).toNat))).bind fun t152 => (some (t151 == t152)))) else (none)) else (some false)))) else (some false)))) else (some false)) = some r := H
      have A7 := Aside0.mk A70
      clear A70
      by_cases c8 : t146 = true
      · subst c8
        have H1 : ((words_Name.f k a0).bind fun t147 => ((railplanref1_Name.f k a0).bind fun t148 => (if (t147 == t148) = true then ((words_Name.f k (t145.extract 0 ((ji4) : Int).toNat)).bind fun t149 => ((railplanref1_Name.f k (t145.extract 0 ((ji4) : Int).toNat)).bind fun t150 => (if (t149 == t150) = true then (if 1 + (t145.extract 0 ((ji4) : Int).toNat).size ≤ 9223372036854775807 then ((words_Name.f k ((⟨#[97]⟩ : ByteArray) ++ (t145.extract 0 ((ji4) : Int).toNat))).bind fun t151 => ((railplanref1_Name.f k ((⟨#[97]⟩ : ByteArray) ++ (t145.extract 0 ((ji4) : Int).toNat))).bind fun t152 => (some (t151 == t152)))) else (none)) else (some false)))) else (some false)))) = some r := by rw [if_pos rfl] at H; exact H
        clear H
        have H := H1
        clear H1
        replace H := Option.bind_eq_some_iff.mp H
        obtain ⟨t147, A90, H⟩ := H
        replace H : ((railplanref1_Name.f k a0).bind fun t148 => (if (t147 == t148) = true then ((words_Name.f k (t145.extract 0 ((ji4) : Int).toNat)).bind fun t149 => ((railplanref1_Name.f k (t145.extract 0 ((ji4) : Int).toNat)).bind fun t150 => (if (t149 == t150) = true then (if 1 + (t145.extract 0 ((ji4) : Int).toNat).size ≤ 9223372036854775807 then ((words_Name.f k ((⟨#[97]⟩ : ByteArray) ++ (t145.extract 0 ((ji4) : Int).toNat))).bind fun t151 => ((railplanref1_Name.f k ((⟨#[97]⟩ : ByteArray) ++ (t145.extract 0 ((ji4) : Int).toNat))).bind fun t152 => (some (t151 == t152)))) else (none)) else (some false)))) else (some false))) = some r := H
        have A9 := Aside0.mk A90
        clear A90
        replace H := Option.bind_eq_some_iff.mp H
        obtain ⟨t148, A100, H⟩ := H
        replace H : (if (t147 == t148) = true then ((words_Name.f k (t145.extract 0 ((ji4) : Int).toNat)).bind fun t149 => ((railplanref1_Name.f k (t145.extract 0 ((ji4) : Int).toNat)).bind fun t150 => (if (t149 == t150) = true then (if 1 + (t145.extract 0 ((ji4) : Int).toNat).size ≤ 9223372036854775807 then ((words_Name.f k ((⟨#[97]⟩ : ByteArray) ++ (t145.extract 0 ((ji4) : Int).toNat))).bind fun t151 => ((railplanref1_Name.f k ((⟨#[97]⟩ : ByteArray) ++ (t145.extract 0 ((ji4) : Int).toNat))).bind fun t152 => (some (t151 == t152)))) else (none)) else (some false)))) else (some false)) = some r := H
        have A10 := Aside0.mk A100
        clear A100
        by_cases c11 : (t147 == t148) = true
        · rw [if_pos c11] at H
          have c11b0 : (t147 == t148) = true := c11
          (try (have c11b1 : decide (t147 = t148) = true := by simpa using c11))
          (try (have c11b2 : (t147 == t148) = true := by simpa using c11))
          clear c11
          replace H := Option.bind_eq_some_iff.mp H
          obtain ⟨t149, A120, H⟩ := H
          replace H : ((railplanref1_Name.f k (t145.extract 0 ((ji4) : Int).toNat)).bind fun t150 => (if (t149 == t150) = true then (if 1 + (t145.extract 0 ((ji4) : Int).toNat).size ≤ 9223372036854775807 then ((words_Name.f k ((⟨#[97]⟩ : ByteArray) ++ (t145.extract 0 ((ji4) : Int).toNat))).bind fun t151 => ((railplanref1_Name.f k ((⟨#[97]⟩ : ByteArray) ++ (t145.extract 0 ((ji4) : Int).toNat))).bind fun t152 => (some (t151 == t152)))) else (none)) else (some false))) = some r := H
          have A12 := Aside0.mk A120
          clear A120
          replace H := Option.bind_eq_some_iff.mp H
          obtain ⟨t150, A130, H⟩ := H
          replace H : (if (t149 == t150) = true then (if 1 + (t145.extract 0 ((ji4) : Int).toNat).size ≤ 9223372036854775807 then ((words_Name.f k ((⟨#[97]⟩ : ByteArray) ++ (t145.extract 0 ((ji4) : Int).toNat))).bind fun t151 => ((railplanref1_Name.f k ((⟨#[97]⟩ : ByteArray) ++ (t145.extract 0 ((ji4) : Int).toNat))).bind fun t152 => (some (t151 == t152)))) else (none)) else (some false)) = some r := H
          have A13 := Aside0.mk A130
          clear A130
          by_cases c14 : (t149 == t150) = true
          · rw [if_pos c14] at H
            have c14b0 : (t149 == t150) = true := c14
            (try (have c14b1 : decide (t149 = t150) = true := by simpa using c14))
            (try (have c14b2 : (t149 == t150) = true := by simpa using c14))
            clear c14
            by_cases c15 : 1 + (t145.extract 0 ((ji4) : Int).toNat).size ≤ 9223372036854775807
            · rw [if_pos c15] at H
              have c15b0 := eq_true c15
              have c15b1 : decide (1 + (t145.extract 0 ((ji4) : Int).toNat).size ≤ 9223372036854775807) = true := decide_eq_true c15
              try have c15b2 : (9223372036854775807 < 1 + (t145.extract 0 ((ji4) : Int).toNat).size) = False := eq_false (Nat.not_lt.2 c15)
              try have c15b3 : (9223372036854775807 < 1 + (ji4).toNat) = False := eq_false (by have h_ := c15; simp only [ByteArray.size_extract] at h_; have := of_eq_true c6b0; omega)
              replace H := Option.bind_eq_some_iff.mp H
              obtain ⟨t151, A160, H⟩ := H
              replace H : ((railplanref1_Name.f k ((⟨#[97]⟩ : ByteArray) ++ (t145.extract 0 ((ji4) : Int).toNat))).bind fun t152 => (some (t151 == t152))) = some r := H
              have A16 := Aside0.mk A160
              clear A160
              replace H := Option.bind_eq_some_iff.mp H
              obtain ⟨t152, A170, H⟩ := H
              replace H : (some (t151 == t152)) = some r := H
              have A17 := Aside0.mk A170
              clear A170
              obtain rfl := Option.some.inj H
              simp only [Option.some.injEq, Prod.mk.injEq] at H
              obtain ⟨rfl⟩ := H
              go_enter Tryd.func4, Tryd.ntmps4
              go_wp2_with (first | ((with_reducible refine gate_callee (f := 17) rfl ?_); refine goesL_ (some 7) rfl rfl Tryd.func17 (by kernel_rfl) rfl #[.slice A1 l1.length c1] rfl (by (try simp only [List.map_toArray, List.map_cons, List.map_nil]); first | done | rfl | (simp only [List.length_drop, List.length_take]; rfl)) ?_; (with_reducible refine (railplanlaw3_pieces.calls k _ _ l1 t145 _ ?side1 ?side2 A3.out).mono ?_); (case side1 => repeat (first | exact HR1.out | (with_reducible refine Kd.C_alloc ?_ _) | (with_reducible refine Kd.C_drewN ?_ _) | (with_reducible refine Kd.C_drew ?_))); (case side2 => exact HC1.out); rintro e w18 ⟨rfl, hb⟩; refine ⟨_, rfl, ?_⟩; have n0_ := Aside0.mk (below_step (by repeat (first | (with_reducible first | exact HB.out | apply below_alloc | apply pw_below_drewN | apply below_drew1) | exact HB.out)) hb); clear HB; have HB := n0_; clear n0_; (try clear hb); (try clear hb2); (try clear hk); (try clear hi)) | ((with_reducible refine gate_callee (f := 18) rfl ?_); refine goesL_ (some 13) rfl rfl Tryd.func18 (by kernel_rfl) rfl #[] rfl (by (try simp only [List.map_toArray, List.map_cons, List.map_nil]); first | done | rfl | (simp only [List.length_drop, List.length_take]; rfl)) ?_; (with_reducible refine (railplanlaw3_awake.calls k  true _ ?side1 A7.out).mono ?_); (case side1 => exact ⟨hL_.out.below (by repeat (first | (with_reducible first | exact HB.out | apply below_alloc | apply pw_below_drewN | apply below_drew1) | exact HB.out))⟩); rintro e w19 ⟨rfl, hb⟩; refine ⟨_, rfl, ?_⟩; have n0_ := Aside0.mk (below_step (by repeat (first | (with_reducible first | exact HB.out | apply below_alloc | apply pw_below_drewN | apply below_drew1) | exact HB.out)) hb); clear HB; have HB := n0_; clear n0_; (try clear hb); (try clear hb2); (try clear hk); (try clear hi)) | (go_at_call 19; (with_reducible refine (words_Name.calls k a0 t147 _ A9.out).mono ?_); rintro e w' ⟨rfl, ⟨nd, rfl⟩⟩) | (go_at_call 20; (with_reducible refine (railplanref1_Name.calls k a0 t148 _ A10.out).mono ?_); rintro e w' ⟨rfl, ⟨nd, rfl⟩⟩) | (go_at_call 19; (with_reducible refine (words_Name.calls k (t145.extract 0 ((ji4) : Int).toNat) t149 _ A12.out).mono ?_); rintro e w' ⟨rfl, ⟨nd, rfl⟩⟩) | (go_at_call 20; (with_reducible refine (railplanref1_Name.calls k (t145.extract 0 ((ji4) : Int).toNat) t150 _ A13.out).mono ?_); rintro e w' ⟨rfl, ⟨nd, rfl⟩⟩) | (go_at_call 19; (with_reducible refine (words_Name.calls k ((⟨#[97]⟩ : ByteArray) ++ (t145.extract 0 ((ji4) : Int).toNat)) t151 _ A16.out).mono ?_); rintro e w' ⟨rfl, ⟨nd, rfl⟩⟩) | (go_at_call 20; (with_reducible refine (railplanref1_Name.calls k ((⟨#[97]⟩ : ByteArray) ++ (t145.extract 0 ((ji4) : Int).toNat)) t152 _ A17.out).mono ?_); rintro e w' ⟨rfl, ⟨nd, rfl⟩⟩))
              go_ret
              exact ⟨by first | rfl | (simp [errW_none, errW_some] <;> rfl) | (simp only [← hji4]; first | rfl | (simp [errW_none, errW_some] <;> rfl)) | (simp [*, errW_none, errW_some] <;> rfl), by repeat (first | (with_reducible first | exact HB.out | apply below_alloc | apply pw_below_drewN | apply below_drew1) | exact HB.out)⟩
            · rw [if_neg c15] at H
              exact absurd H (by simp)
          · rw [if_neg c14] at H
            have c14b0 : (t149 == t150) = false := by simpa using c14
            (try (have c14b1 : decide (t149 = t150) = false := by simpa using c14))
            (try (have c14b2 : (t149 == t150) = false := by simpa using c14))
            (try (have c14b3 : ¬ (t149 = t150) := by simpa using c14))
            clear c14
            obtain rfl := Option.some.inj H
            exact absurd hr_.out (by decide)
        · rw [if_neg c11] at H
          have c11b0 : (t147 == t148) = false := by simpa using c11
          (try (have c11b1 : decide (t147 = t148) = false := by simpa using c11))
          (try (have c11b2 : (t147 == t148) = false := by simpa using c11))
          (try (have c11b3 : ¬ (t147 = t148) := by simpa using c11))
          clear c11
          obtain rfl := Option.some.inj H
          exact absurd hr_.out (by decide)
      · replace c8 := Bool.eq_false_iff.mpr c8
        subst c8
        have H1 : (some false) = some r := by rw [if_neg (show ¬ (false = true) by decide)] at H; exact H
        clear H
        have H := H1
        clear H1
        obtain rfl := Option.some.inj H
        exact absurd hr_.out (by decide)
    · rw [if_neg c6] at H
      exact absurd H (by simp)
  · rw [if_neg c5] at H
    exact absurd H (by simp)

def railplanlaw3_WordsNames.Pure : Prop := ∀ (a0 : ByteArray) (l1 : List Int), (fun x : ByteArray => x.size ≤ 140737488351232) a0 → (fun xs : List Int => xs.length * 1 ≤ 140737488351232 ∧ xs.length ≤ maxLen ∧ ∀ x ∈ xs, (fun x : Int => (Lit.int .u8 x).wf = true) x) l1 → ∃ k, railplanlaw3_WordsNames.f k a0 l1 = some true

end Go.Proofs.YtnmbljpifadipaaDoor.X
