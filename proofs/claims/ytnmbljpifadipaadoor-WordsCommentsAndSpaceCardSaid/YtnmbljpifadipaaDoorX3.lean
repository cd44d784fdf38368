/- Written by a program of this claim. Proved: each Go function named below, called with any arguments at which its Lean function answers, returns that answer; or, of a law, its given statement. -/
import Derived.Test.YtnmbljpifadipaaDoorX0
import Derived.Test.YtnmbljpifadipaaDoorQLaid
import Derived.Test.YtnmbljpifadipaaDoorQLines
namespace Go.Proofs.YtnmbljpifadipaaDoor.X
open Go.RowKit Go.Proofs.YtnmbljpifadipaaDoorW Go.Proofs.YtnmbljpifadipaaDoorW.PrintWords Go.Proofs.YtnmbljpifadipaaDoorW.PrintLast Go.Proofs.YtnmbljpifadipaaDoorW.PrintMore
attribute [local go_sem] max2_int min2_int max_two min_two max_three min_three max_four min_four   -- for this text's walks alone
set_option linter.unusedVariables false
set_option linter.unusedSimpArgs false

/-! ### words_letter: function 33 -/
def words_letter.f (a0 : Int) : Option (Bool) := if a0 ≥ 65 then (if a0 ≤ 90 then (some true) else (if a0 ≥ 97 then (some (decide (a0 ≤ 122))) else (some false))) else (if a0 ≥ 97 then (some (decide (a0 ≤ 122))) else (some false))
set_option maxHeartbeats 8000000 in
set_option maxRecDepth 100000 in
theorem words_letter.calls (a0 : Int) (r : Bool) (w : World) (h : words_letter.f a0 = some r) :
    Calls Tryd.prog 33 #[.int .u8 a0] w fun e w' => e = .returned (.bool r) ∧ Drawn0 w w' := by
  have H : (if a0 ≥ 65 then (if a0 ≤ 90 then (some true) else (if a0 ≥ 97 then (some (decide (a0 ≤ 122))) else (some false))) else (if a0 ≥ 97 then (some (decide (a0 ≤ 122))) else (some false))) = some r := h
  clear h
  by_cases c2 : a0 ≥ 65
  · rw [if_pos c2] at H
    have c2b0 : decide (65 ≤ a0) = true := decide_eq_true c2
    clear c2
    by_cases c3 : a0 ≤ 90
    · rw [if_pos c3] at H
      have c3b0 : decide (a0 ≤ 90) = true := decide_eq_true c3
      clear c3
      obtain rfl := Option.some.inj H
      simp only [Option.some.injEq, Prod.mk.injEq] at H
      obtain ⟨rfl⟩ := H
      go_enter Tryd.func33, Tryd.ntmps33
      go_wp2
      go_ret
      exact ⟨by first | rfl | (simp; cases a0.toList <;> rfl) | (simp; done) | (simp [*]; done), by repeat (first | exact Drawn0.refl _ | apply Drawn0.step)⟩
    · rw [if_neg c3] at H
      have c3b0 : decide (a0 ≤ 90) = false := decide_eq_false c3
      clear c3
      by_cases c4 : a0 ≥ 97
      · rw [if_pos c4] at H
        have c4b0 : decide (97 ≤ a0) = true := decide_eq_true c4
        clear c4
        obtain rfl := Option.some.inj H
        simp only [Option.some.injEq, Prod.mk.injEq] at H
        obtain ⟨rfl⟩ := H
        go_enter Tryd.func33, Tryd.ntmps33
        go_wp2
        go_ret
        exact ⟨by first | rfl | (simp; cases a0.toList <;> rfl) | (simp; done) | (simp [*]; done), by repeat (first | exact Drawn0.refl _ | apply Drawn0.step)⟩
      · rw [if_neg c4] at H
        have c4b0 : decide (97 ≤ a0) = false := decide_eq_false c4
        clear c4
        obtain rfl := Option.some.inj H
        simp only [Option.some.injEq, Prod.mk.injEq] at H
        obtain ⟨rfl⟩ := H
        go_enter Tryd.func33, Tryd.ntmps33
        go_wp2
        go_ret
        exact ⟨by first | rfl | (simp; cases a0.toList <;> rfl) | (simp; done) | (simp [*]; done), by repeat (first | exact Drawn0.refl _ | apply Drawn0.step)⟩
  · rw [if_neg c2] at H
    have c2b0 : decide (65 ≤ a0) = false := decide_eq_false c2
    clear c2
    by_cases c5 : a0 ≥ 97
    · rw [if_pos c5] at H
      have c5b0 : decide (97 ≤ a0) = true := decide_eq_true c5
      clear c5
      obtain rfl := Option.some.inj H
      simp only [Option.some.injEq, Prod.mk.injEq] at H
      obtain ⟨rfl⟩ := H
      go_enter Tryd.func33, Tryd.ntmps33
      go_wp2
      go_ret
      exact ⟨by first | rfl | (simp; cases a0.toList <;> rfl) | (simp; done) | (simp [*]; done), by repeat (first | exact Drawn0.refl _ | apply Drawn0.step)⟩
    · rw [if_neg c5] at H
      have c5b0 : decide (97 ≤ a0) = false := decide_eq_false c5
      clear c5
      obtain rfl := Option.some.inj H
      simp only [Option.some.injEq, Prod.mk.injEq] at H
      obtain ⟨rfl⟩ := H
      go_enter Tryd.func33, Tryd.ntmps33
      go_wp2
      go_ret
      exact ⟨by first | rfl | (simp; cases a0.toList <;> rfl) | (simp; done) | (simp [*]; done), by repeat (first | exact Drawn0.refl _ | apply Drawn0.step)⟩

/-! ### words_digit: function 34 -/
def words_digit.f (a0 : Int) : Option (Bool) := if a0 ≥ 48 then (some (decide (a0 ≤ 57))) else (some false)
set_option maxHeartbeats 8000000 in
set_option maxRecDepth 100000 in
theorem words_digit.calls (a0 : Int) (r : Bool) (w : World) (h : words_digit.f a0 = some r) :
    Calls Tryd.prog 34 #[.int .u8 a0] w fun e w' => e = .returned (.bool r) ∧ Drawn0 w w' := by
  have H : (if a0 ≥ 48 then (some (decide (a0 ≤ 57))) else (some false)) = some r := h
  clear h
  by_cases c2 : a0 ≥ 48
  · rw [if_pos c2] at H
    have c2b0 : decide (48 ≤ a0) = true := decide_eq_true c2
    clear c2
    obtain rfl := Option.some.inj H
    simp only [Option.some.injEq, Prod.mk.injEq] at H
    obtain ⟨rfl⟩ := H
    go_enter Tryd.func34, Tryd.ntmps34
    go_wp2
    go_ret
    exact ⟨by first | rfl | (simp; cases a0.toList <;> rfl) | (simp; done) | (simp [*]; done), by repeat (first | exact Drawn0.refl _ | apply Drawn0.step)⟩
  · rw [if_neg c2] at H
    have c2b0 : decide (48 ≤ a0) = false := decide_eq_false c2
    clear c2
    obtain rfl := Option.some.inj H
    simp only [Option.some.injEq, Prod.mk.injEq] at H
    obtain ⟨rfl⟩ := H
    go_enter Tryd.func34, Tryd.ntmps34
    go_wp2
    go_ret
    exact ⟨by first | rfl | (simp; cases a0.toList <;> rfl) | (simp; done) | (simp [*]; done), by repeat (first | exact Drawn0.refl _ | apply Drawn0.step)⟩

/-! ### words_Name: function 19 -/
mutual
def words_Name.j0 : Nat → ByteArray → Bool → Option (Bool)
  | 0, _, _ => none
  | k + 1, x0, x17 => if x17 = true then (some false) else (words_Name.l0 k x0 (x0.size : Int) 0)
def words_Name.l0 : Nat → ByteArray → Int → Int → Option (Bool)
  | 0, _, _, _ => none
  | k + 1, x0, x19, x20 => if x20 < x19 then (if 0 ≤ x20 then (if x20 < (x0.size : Int) then ((words_letter.f (bt x0 x20)).bind fun t131 => (if t131 = true then (words_Name.l0 k x0 x19 (wrap64 (x20 + 1))) else ((words_digit.f (bt x0 x20)).bind fun t132 => (if t132 = true then (words_Name.l0 k x0 x19 (wrap64 (x20 + 1))) else (if (bt x0 x20) = 95 then (words_Name.l0 k x0 x19 (wrap64 (x20 + 1))) else (some false)))))) else (none)) else (none)) else (some true)
end
def words_Name.f (k : Nat) (a0 : ByteArray) : Option (Bool) := if a0.toList = ([] : List UInt8) then (words_Name.j0 k a0 true) else (if (a0.size : Int) > 12 then (words_Name.j0 k a0 true) else (if 0 < (a0.size : Int) then ((words_letter.f (bt a0 0)).bind fun t130 => (words_Name.j0 k a0 (!t130))) else (none)))
theorem words_Name.mono_l : ∀ k, (∀ y0 y1, LeO (words_Name.j0 k y0 y1) (words_Name.j0 (k + 1) y0 y1)) ∧ (∀ y0 y1 y2, LeO (words_Name.l0 k y0 y1 y2) (words_Name.l0 (k + 1) y0 y1 y2))
  | 0 => ⟨fun _ _ r h => by simp [words_Name.j0] at h, fun _ _ _ r h => by simp [words_Name.l0] at h⟩
  | k + 1 => by
    obtain ⟨ih0, ih1⟩ := words_Name.mono_l k
    refine ⟨?_, ?_⟩
    · intro y0 y1
      unfold words_Name.j0
      repeat' first
      | (with_reducible exact ih0 _ _)
      | (with_reducible exact ih1 _ _ _)
      | (with_reducible exact LeO.refl _)
      | (with_reducible exact LeO.none _)
      | (with_reducible refine LeO.ite ?_ ?_)
      | (with_reducible refine LeO.bind ?_ (fun _ => ?_))
      | exact ih0 _ _
      | exact ih1 _ _ _
      | exact LeO.none _
      | refine LeO.ite ?_ ?_
      | refine LeO.bind ?_ (fun _ => ?_)
    · intro y0 y1 y2
      unfold words_Name.l0
      repeat' first
      | (with_reducible exact ih0 _ _)
      | (with_reducible exact ih1 _ _ _)
      | (with_reducible exact LeO.refl _)
      | (with_reducible exact LeO.none _)
      | (with_reducible refine LeO.ite ?_ ?_)
      | (with_reducible refine LeO.bind ?_ (fun _ => ?_))
      | exact ih0 _ _
      | exact ih1 _ _ _
      | exact LeO.none _
      | refine LeO.ite ?_ ?_
      | refine LeO.bind ?_ (fun _ => ?_)
theorem words_Name.mono : ∀ a0 k, LeO (words_Name.f k a0) (words_Name.f (k + 1) a0) := by
  intro a0 k
  obtain ⟨ih0, ih1⟩ := words_Name.mono_l k
  unfold words_Name.f
  repeat' first
      | (with_reducible exact ih0 _ _)
      | (with_reducible exact ih1 _ _ _)
      | (with_reducible exact LeO.refl _)
      | (with_reducible exact LeO.none _)
      | (with_reducible refine LeO.ite ?_ ?_)
      | (with_reducible refine LeO.bind ?_ (fun _ => ?_))
      | exact ih0 _ _
      | exact ih1 _ _ _
      | exact LeO.none _
      | refine LeO.ite ?_ ?_
      | refine LeO.bind ?_ (fun _ => ?_)
set_option maxHeartbeats 8000000 in
set_option maxRecDepth 100000 in
theorem words_Name.calls (k : Nat) (a0 : ByteArray) (r : Bool) (w : World) (h : words_Name.f k a0 = some r) :
    Calls Tryd.prog 19 #[.string a0] w fun e w' => e = .returned (.bool r) ∧ Drawn0 w w' := by
  have H : (if a0.toList = ([] : List UInt8) then (words_Name.j0 k a0 true) else (if (a0.size : Int) > 12 then (words_Name.j0 k a0 true) else (if 0 < (a0.size : Int) then ((words_letter.f (bt a0 0)).bind fun t130 => (words_Name.j0 k a0 (!t130))) else (none)))) = some r := h
  clear h
  have HC2 := Aside0.mk H
  clear H
  go_enter Tryd.func19, Tryd.ntmps19
  go_upto_region 1 with (fail)
  go_cut [17] (fun v17 wc => ∃ (kq : Nat) (x17_1 : Bool), v17 = .bool x17_1 ∧ Aside0 (words_Name.j0 kq a0 x17_1 = some r) ∧ Aside0 (kq ≤ k) ∧ Drawn0 w wc)
  case first =>
    have H := HC2.out
    clear HC2
    by_cases c3 : a0.toList = ([] : List UInt8)
    · rw [if_pos c3] at H
      have c3b0 : (a0.toList == ([] : List UInt8)) = true := beq_iff_eq.mpr c3
      have c3b1 : (a0.toList != ([] : List UInt8)) = false := bne_eq_false_iff_eq.mpr c3
      clear c3
      (first | rw [c3b0] | (simp only [i64_w, i32_w]; rw [c3b0]) | rw [c3b1] | skip)
      have H' := Aside0.mk H
      clear H
      go_wp2
      go_meet
      case rel => exact ⟨_, (true), (by first | rfl | (simp; done) | (simp [*]; done)), H', ⟨by first | omega | exact Nat.le_refl _⟩, by repeat (first | exact Drawn0.refl _ | apply Drawn0.step)⟩
    · rw [if_neg c3] at H
      have c3b0 : (a0.toList == ([] : List UInt8)) = false := beq_eq_false_iff_ne.mpr c3
      have c3b1 : (a0.toList != ([] : List UInt8)) = true := bne_iff_ne.mpr c3
      (first | rw [c3b0] | (simp only [i64_w, i32_w]; rw [c3b0]) | rw [c3b1] | skip)
      by_cases c4 : (a0.size : Int) > 12
      · rw [if_pos c4] at H
        have c4b0 : decide (12 < (a0.size : Int)) = true := decide_eq_true c4
        have c4b1 : decide (12 < a0.size) = true := decide_eq_true (by omega)
        clear c4
        have H' := Aside0.mk H
        clear H
        go_wp2
        go_meet
        case rel => exact ⟨_, (true), (by first | rfl | (simp; done) | (simp [*]; done)), H', ⟨by first | omega | exact Nat.le_refl _⟩, by repeat (first | exact Drawn0.refl _ | apply Drawn0.step)⟩
      · rw [if_neg c4] at H
        have c4b0 : decide (12 < (a0.size : Int)) = false := decide_eq_false c4
        have c4b1 : decide (12 < a0.size) = false := decide_eq_false (by omega)
        clear c4
        by_cases c5 : 0 < (a0.size : Int)
        · rw [if_pos c5] at H
          have c5b0 : decide (0 < (a0.size : Int)) = true := decide_eq_true c5
          have c5b1 : decide (0 < a0.size) = true := decide_eq_true (by omega)
          clear c5
          replace H := Option.bind_eq_some_iff.mp H
          obtain ⟨t130, A70, H⟩ := H
          replace H : (words_Name.j0 k a0 (!t130)) = some r := H
          have A7 := Aside0.mk A70
          clear A70
          have H' := Aside0.mk H
          clear H
          have p6 : 0 ≤ (0 : Int) := (by omega)
          have q6 : 0 < a0.size := (by have : (0 : Int) < (a0.size : Int) := of_decide_eq_true (by first | (with_reducible assumption) | assumption); omega)
          have hx6 : ∀ h : 0 < a0.size, ((a0[0]'h).toNat : Int) = bt a0 0 := bt_at a0 0
          clear p6
          have qi6 : (0 < (a0.size : Int)) = True := eq_true (of_decide_eq_true (by first | (with_reducible assumption) | assumption))
          replace q6 := eq_true q6
          go_wp2_with (first | (go_at_call 33; (with_reducible refine (words_letter.calls (bt a0 0) t130 _ A7.out).mono ?_); rintro e w' ⟨rfl, ⟨nd, rfl⟩⟩))
          go_meet
          case rel => exact ⟨_, (!t130), (by first | rfl | (simp; done) | (simp [*]; done)), H', ⟨by first | omega | exact Nat.le_refl _⟩, by repeat (first | exact Drawn0.refl _ | apply Drawn0.step)⟩
        · rw [if_neg c5] at H
          exact absurd H (by simp)
  case rest =>
    clear HC2
    try clear c1
    try clear p2
    try clear c3
    try clear c3b0
    try clear c3b1
    try clear c4
    try clear c4b0
    try clear c4b1
    try clear c5
    try clear c5b0
    try clear c5b1
    try clear p6
    try clear q6
    try clear hx6
    try clear qi6
    try clear p6
    try clear q6
    obtain ⟨kq, x17_1, rfl, HA, HJ1, ⟨mc1, rfl⟩⟩ := hcut
    cases kq with
    | zero => exact absurd HA.out (by simp [words_Name.j0])
    | succ kj1 =>
      have H := HA.out
      clear HA
      simp only [words_Name.j0] at H
      by_cases c8 : x17_1 = true
      · subst c8
        have H1 : (some false) = some r := by rw [if_pos rfl] at H; exact H
        clear H
        have H := H1
        clear H1
        obtain rfl := Option.some.inj H
        simp only [Option.some.injEq, Prod.mk.injEq] at H
        obtain ⟨rfl⟩ := H
        go_wp2
        go_ret
        exact ⟨by first | rfl | (simp; cases a0.toList <;> rfl) | (simp; done) | (simp [*]; done), by repeat (first | exact Drawn0.refl _ | apply Drawn0.step)⟩
      · replace c8 := Bool.eq_false_iff.mpr c8
        subst c8
        have H1 : (words_Name.l0 kj1 a0 (a0.size : Int) 0) = some r := by rw [if_neg (show ¬ (false = true) by decide)] at H; exact H
        clear H
        have H := H1
        clear H1
        have H' := Aside0.mk H
        clear H
        go_wp2
        go_loopg [20] kj1 (fun kq v20 w' => ∃ (x20_2 : Int), v20 = .int .i64 x20_2 ∧ Aside0 (words_Name.l0 kq a0 (a0.size : Int) x20_2 = some r) ∧ Aside0 (kq ≤ kj1) ∧ Drawn0 w w')
        case atStart => exact ⟨(0), (by first | rfl | (simp; done) | (simp [*]; done)), H', ⟨Nat.le_refl _⟩, by repeat (first | exact Drawn0.refl _ | apply Drawn0.step)⟩
        case round =>
          clear H'
          try clear c1
          try clear p2
          try clear c3
          try clear c3b0
          try clear c3b1
          try clear c4
          try clear c4b0
          try clear c4b1
          try clear c5
          try clear c5b0
          try clear c5b1
          try clear p6
          try clear q6
          try clear hx6
          try clear qi6
          try clear c8
          try clear p2
          try clear p6
          try clear q6
          obtain ⟨x20_2, rfl, HA, HK2, ⟨m2, rfl⟩⟩ := hrel
          cases gk with
          | zero => exact absurd HA.out (by simp [words_Name.l0])
          | succ k2 =>
            have H := HA.out
            clear HA
            simp only [words_Name.l0] at H
            by_cases c9 : x20_2 < (a0.size : Int)
            · rw [if_pos c9] at H
              have c9b0 : decide (x20_2 < (a0.size : Int)) = true := decide_eq_true c9
              clear c9
              by_cases c10 : 0 ≤ x20_2
              · rw [if_pos c10] at H
                have c10b0 : decide (0 ≤ x20_2) = true := decide_eq_true c10
                clear c10
                by_cases c11 : x20_2 < (a0.size : Int)
                · rw [if_pos c11] at H
                  have c11b0 : decide (x20_2 < (a0.size : Int)) = true := decide_eq_true c11
                  clear c11
                  replace H := Option.bind_eq_some_iff.mp H
                  obtain ⟨t131, A130, H⟩ := H
                  replace H : (if t131 = true then (words_Name.l0 k2 a0 (a0.size : Int) (wrap64 (x20_2 + 1))) else ((words_digit.f (bt a0 x20_2)).bind fun t132 => (if t132 = true then (words_Name.l0 k2 a0 (a0.size : Int) (wrap64 (x20_2 + 1))) else (if (bt a0 x20_2) = 95 then (words_Name.l0 k2 a0 (a0.size : Int) (wrap64 (x20_2 + 1))) else (some false))))) = some r := H
                  have A13 := Aside0.mk A130
                  clear A130
                  by_cases c14 : t131 = true
                  · subst c14
                    have H1 : (words_Name.l0 k2 a0 (a0.size : Int) (wrap64 (x20_2 + 1))) = some r := by rw [if_pos rfl] at H; exact H
                    clear H
                    have H := H1
                    clear H1
                    have H' := Aside0.mk H
                    clear H
                    have p12 : 0 ≤ (x20_2 : Int) := of_decide_eq_true (by first | (with_reducible assumption) | assumption)
                    have q12 : x20_2 < (a0.size : Int) := of_decide_eq_true (by first | (with_reducible assumption) | assumption)
                    have hx12 := bt_at a0 x20_2
                    replace p12 := eq_true p12
                    replace q12 := eq_true q12
                    go_wp2_with (first | ((with_reducible refine gate_callee (f := 33) rfl ?_); refine goesL_ (some 27) rfl rfl Tryd.func33 (by kernel_rfl) rfl #[.int .u8 (bt a0 x20_2)] rfl (by (try simp only [List.map_toArray, List.map_cons, List.map_nil]); first | done | rfl | (simp only [List.length_drop, List.length_take]; rfl)) ?_; (with_reducible refine (words_letter.calls (bt a0 x20_2) true _ A13.out).mono ?_); rintro e w' ⟨rfl, ⟨nd, rfl⟩⟩; refine ⟨_, rfl, ?_⟩))
                    go_roundg k2
                    case measure => have := HJ1.out; have := HK2.out; omega
                    case rel => exact ⟨(wrap64 (x20_2 + 1)), (by first | rfl | (simp; done) | (simp [*]; done)), H', ⟨by have := HJ1.out; have := HK2.out; omega⟩, by repeat (first | exact Drawn0.refl _ | apply Drawn0.step)⟩
                  · replace c14 := Bool.eq_false_iff.mpr c14
                    subst c14
                    have H1 : ((words_digit.f (bt a0 x20_2)).bind fun t132 => (if t132 = true then (words_Name.l0 k2 a0 (a0.size : Int) (wrap64 (x20_2 + 1))) else (if (bt a0 x20_2) = 95 then (words_Name.l0 k2 a0 (a0.size : Int) (wrap64 (x20_2 + 1))) else (some false)))) = some r := by rw [if_neg (show ¬ (false = true) by decide)] at H; exact H
                    clear H
                    have H := H1
                    clear H1
                    replace H := Option.bind_eq_some_iff.mp H
                    obtain ⟨t132, A150, H⟩ := H
                    replace H : (if t132 = true then (words_Name.l0 k2 a0 (a0.size : Int) (wrap64 (x20_2 + 1))) else (if (bt a0 x20_2) = 95 then (words_Name.l0 k2 a0 (a0.size : Int) (wrap64 (x20_2 + 1))) else (some false))) = some r := H
                    have A15 := Aside0.mk A150
                    clear A150
                    by_cases c16 : t132 = true
                    · subst c16
                      have H1 : (words_Name.l0 k2 a0 (a0.size : Int) (wrap64 (x20_2 + 1))) = some r := by rw [if_pos rfl] at H; exact H
                      clear H
                      have H := H1
                      clear H1
                      have H' := Aside0.mk H
                      clear H
                      have p12 : 0 ≤ (x20_2 : Int) := of_decide_eq_true (by first | (with_reducible assumption) | assumption)
                      have q12 : x20_2 < (a0.size : Int) := of_decide_eq_true (by first | (with_reducible assumption) | assumption)
                      have hx12 := bt_at a0 x20_2
                      replace p12 := eq_true p12
                      replace q12 := eq_true q12
                      go_wp2_with (first | ((with_reducible refine gate_callee (f := 33) rfl ?_); refine goesL_ (some 27) rfl rfl Tryd.func33 (by kernel_rfl) rfl #[.int .u8 (bt a0 x20_2)] rfl (by (try simp only [List.map_toArray, List.map_cons, List.map_nil]); first | done | rfl | (simp only [List.length_drop, List.length_take]; rfl)) ?_; (with_reducible refine (words_letter.calls (bt a0 x20_2) false _ A13.out).mono ?_); rintro e w' ⟨rfl, ⟨nd, rfl⟩⟩; refine ⟨_, rfl, ?_⟩) | (go_at_call 34; (with_reducible refine (words_digit.calls (bt a0 x20_2) true _ A15.out).mono ?_); rintro e w' ⟨rfl, ⟨nd, rfl⟩⟩))
                      go_roundg k2
                      case measure => have := HJ1.out; have := HK2.out; omega
                      case rel => exact ⟨(wrap64 (x20_2 + 1)), (by first | rfl | (simp; done) | (simp [*]; done)), H', ⟨by have := HJ1.out; have := HK2.out; omega⟩, by repeat (first | exact Drawn0.refl _ | apply Drawn0.step)⟩
                    · replace c16 := Bool.eq_false_iff.mpr c16
                      subst c16
                      have H1 : (if (bt a0 x20_2) = 95 then (words_Name.l0 k2 a0 (a0.size : Int) (wrap64 (x20_2 + 1))) else (some false)) = some r := by rw [if_neg (show ¬ (false = true) by decide)] at H; exact H
                      clear H
                      have H := H1
                      clear H1
                      by_cases c17 : (bt a0 x20_2) = 95
                      · rw [if_pos c17] at H
                        have c17b0 : ((bt a0 x20_2) == 95) = true := beq_iff_eq.mpr c17
                        have c17b1 : ((bt a0 x20_2) != 95) = false := bne_eq_false_iff_eq.mpr c17
                        clear c17
                        have H' := Aside0.mk H
                        clear H
                        have p12 : 0 ≤ (x20_2 : Int) := of_decide_eq_true (by first | (with_reducible assumption) | assumption)
                        have q12 : x20_2 < (a0.size : Int) := of_decide_eq_true (by first | (with_reducible assumption) | assumption)
                        have hx12 := bt_at a0 x20_2
                        replace p12 := eq_true p12
                        replace q12 := eq_true q12
                        go_wp2_with (first | ((with_reducible refine gate_callee (f := 33) rfl ?_); refine goesL_ (some 27) rfl rfl Tryd.func33 (by kernel_rfl) rfl #[.int .u8 (bt a0 x20_2)] rfl (by (try simp only [List.map_toArray, List.map_cons, List.map_nil]); first | done | rfl | (simp only [List.length_drop, List.length_take]; rfl)) ?_; (with_reducible refine (words_letter.calls (bt a0 x20_2) false _ A13.out).mono ?_); rintro e w' ⟨rfl, ⟨nd, rfl⟩⟩; refine ⟨_, rfl, ?_⟩) | (go_at_call 34; (with_reducible refine (words_digit.calls (bt a0 x20_2) false _ A15.out).mono ?_); rintro e w' ⟨rfl, ⟨nd, rfl⟩⟩))
                        go_roundg k2
                        case measure => have := HJ1.out; have := HK2.out; omega
                        case rel => exact ⟨(wrap64 (x20_2 + 1)), (by first | rfl | (simp; done) | (simp [*]; done)), H', ⟨by have := HJ1.out; have := HK2.out; omega⟩, by repeat (first | exact Drawn0.refl _ | apply Drawn0.step)⟩
                      · rw [if_neg c17] at H
                        have c17b0 : ((bt a0 x20_2) == 95) = false := beq_eq_false_iff_ne.mpr c17
                        have c17b1 : ((bt a0 x20_2) != 95) = true := bne_iff_ne.mpr c17
                        obtain rfl := Option.some.inj H
                        simp only [Option.some.injEq, Prod.mk.injEq] at H
                        obtain ⟨rfl⟩ := H
                        have p12 : 0 ≤ (x20_2 : Int) := of_decide_eq_true (by first | (with_reducible assumption) | assumption)
                        have q12 : x20_2 < (a0.size : Int) := of_decide_eq_true (by first | (with_reducible assumption) | assumption)
                        have hx12 := bt_at a0 x20_2
                        replace p12 := eq_true p12
                        replace q12 := eq_true q12
                        go_wp2_with (first | ((with_reducible refine gate_callee (f := 33) rfl ?_); refine goesL_ (some 27) rfl rfl Tryd.func33 (by kernel_rfl) rfl #[.int .u8 (bt a0 x20_2)] rfl (by (try simp only [List.map_toArray, List.map_cons, List.map_nil]); first | done | rfl | (simp only [List.length_drop, List.length_take]; rfl)) ?_; (with_reducible refine (words_letter.calls (bt a0 x20_2) false _ A13.out).mono ?_); rintro e w' ⟨rfl, ⟨nd, rfl⟩⟩; refine ⟨_, rfl, ?_⟩) | (go_at_call 34; (with_reducible refine (words_digit.calls (bt a0 x20_2) false _ A15.out).mono ?_); rintro e w' ⟨rfl, ⟨nd, rfl⟩⟩))
                        go_ret
                        exact ⟨by first | rfl | (simp; cases a0.toList <;> rfl) | (simp; done) | (simp [*]; done), by repeat (first | exact Drawn0.refl _ | apply Drawn0.step)⟩
                · rw [if_neg c11] at H
                  exact absurd H (by simp)
              · rw [if_neg c10] at H
                exact absurd H (by simp)
            · rw [if_neg c9] at H
              have c9b0 : decide (x20_2 < (a0.size : Int)) = false := decide_eq_false c9
              clear c9
              obtain rfl := Option.some.inj H
              simp only [Option.some.injEq, Prod.mk.injEq] at H
              obtain ⟨rfl⟩ := H
              go_wp2
              go_ret
              exact ⟨by first | rfl | (simp; cases a0.toList <;> rfl) | (simp; done) | (simp [*]; done), by repeat (first | exact Drawn0.refl _ | apply Drawn0.step)⟩

/-! ### railplanlaw3_awake: function 18 -/
def railplanlaw3_awake.f (k : Nat)  : Option (Bool) := (words_Lines.f k (⟨#[120, 32, 49]⟩ : ByteArray)).bind fun bt133 => ((words_Number.f (⟨#[45, 49, 50]⟩ : ByteArray)).bind fun bt138 => (if bt133.2.2 = 0 then (if (bt133.1.length : Int) = 1 then (if 0 < (bt133.1.length : Int) then (if ((rd_L3 bt133.1 0).length : Int) = 2 then (if bt138.1 = (-12) then (if bt138.2 = true then ((words_Name.f k (⟨#[65, 95, 49]⟩ : ByteArray)).bind fun t141 => (some t141)) else (some false)) else (some false)) else (some false)) else (none)) else (some false)) else (some false)))
theorem railplanlaw3_awake.mono : ∀ k, LeO (railplanlaw3_awake.f k ) (railplanlaw3_awake.f (k + 1) ) := by
  intro  k
  unfold railplanlaw3_awake.f
  repeat' first
      | (with_reducible exact words_Lines.mono _ _)
      | (with_reducible exact words_Name.mono _ _)
      | (with_reducible exact LeO.refl _)
      | (with_reducible exact LeO.none _)
      | (with_reducible refine LeO.ite ?_ ?_)
      | (with_reducible refine LeO.bind ?_ (fun _ => ?_))
      | exact words_Lines.mono _ _
      | exact words_Name.mono _ _
      | exact LeO.none _
      | refine LeO.ite ?_ ?_
      | refine LeO.bind ?_ (fun _ => ?_)
set_option maxHeartbeats 8000000 in
set_option maxRecDepth 100000 in
theorem railplanlaw3_awake.calls (k : Nat)  (r : Bool) (w : World) (hL_ : Aside0 (Laid w)) (h : railplanlaw3_awake.f k  = some r) :
    Calls Tryd.prog 18 #[] w fun e w' => e = .returned (.bool r) ∧ Below w.heap.size w w' := by
  have HB := Aside0.mk (Below.refl w.heap.size w)
  have H : ((words_Lines.f k (⟨#[120, 32, 49]⟩ : ByteArray)).bind fun bt133 => ((words_Number.f (⟨#[45, 49, 50]⟩ : ByteArray)).bind fun bt138 => (if bt133.2.2 = 0 then (if (bt133.1.length : Int) = 1 then (if 0 < (bt133.1.length : Int) then (if ((rd_L3 bt133.1 0).length : Int) = 2 then (if bt138.1 = (-12) then (if bt138.2 = true then ((words_Name.f k (⟨#[65, 95, 49]⟩ : ByteArray)).bind fun t141 => (some t141)) else (some false)) else (some false)) else (some false)) else (none)) else (some false)) else (some false)))) = some r := h
  clear h
  replace H := Option.bind_eq_some_iff.mp H
  obtain ⟨⟨t133, t134, t135⟩, A10, H⟩ := H
  replace H : ((words_Number.f (⟨#[45, 49, 50]⟩ : ByteArray)).bind fun bt138 => (if t135 = 0 then (if (t133.length : Int) = 1 then (if 0 < (t133.length : Int) then (if ((rd_L3 t133 0).length : Int) = 2 then (if bt138.1 = (-12) then (if bt138.2 = true then ((words_Name.f k (⟨#[65, 95, 49]⟩ : ByteArray)).bind fun t141 => (some t141)) else (some false)) else (some false)) else (some false)) else (none)) else (some false)) else (some false))) = some r := H
  have A1 := Aside0.mk A10
  clear A10
  replace H := Option.bind_eq_some_iff.mp H
  obtain ⟨⟨t138, t139⟩, A20, H⟩ := H
  replace H : (if t135 = 0 then (if (t133.length : Int) = 1 then (if 0 < (t133.length : Int) then (if ((rd_L3 t133 0).length : Int) = 2 then (if t138 = (-12) then (if t139 = true then ((words_Name.f k (⟨#[65, 95, 49]⟩ : ByteArray)).bind fun t141 => (some t141)) else (some false)) else (some false)) else (some false)) else (none)) else (some false)) else (some false)) = some r := H
  have A2 := Aside0.mk A20
  clear A20
  by_cases c3 : t135 = 0
  · rw [if_pos c3] at H
    have c3b0 : (t135 == 0) = true := beq_iff_eq.mpr c3
    have c3b1 : (t135 != 0) = false := bne_eq_false_iff_eq.mpr c3
    clear c3
    by_cases c4 : (t133.length : Int) = 1
    · rw [if_pos c4] at H
      have c4b0 : ((t133.length : Int) == 1) = true := beq_iff_eq.mpr c4
      have c4b1 : ((t133.length : Int) != 1) = false := bne_eq_false_iff_eq.mpr c4
      clear c4
      by_cases c5 : 0 < (t133.length : Int)
      · rw [if_pos c5] at H
        have c5b0 : decide (0 < (t133.length : Int)) = true := decide_eq_true c5
        have c5b1 : decide (0 < t133.length) = true := decide_eq_true (by omega)
        clear c5
        by_cases c6 : ((rd_L3 t133 0).length : Int) = 2
        · rw [if_pos c6] at H
          have c6b0 : (((rd_L3 t133 0).length : Int) == 2) = true := beq_iff_eq.mpr c6
          have c6b1 : (((rd_L3 t133 0).length : Int) != 2) = false := bne_eq_false_iff_eq.mpr c6
          clear c6
          by_cases c7 : t138 = (-12)
          · rw [if_pos c7] at H
            have c7b0 : (t138 == (-12)) = true := beq_iff_eq.mpr c7
            have c7b1 : (t138 != (-12)) = false := bne_eq_false_iff_eq.mpr c7
            clear c7
            by_cases c8 : t139 = true
            · subst c8
              have H1 : ((words_Name.f k (⟨#[65, 95, 49]⟩ : ByteArray)).bind fun t141 => (some t141)) = some r := by rw [if_pos rfl] at H; exact H
              clear H
              have H := H1
              clear H1
              replace H := Option.bind_eq_some_iff.mp H
              obtain ⟨t141, A90, H⟩ := H
              replace H : (some t141) = some r := H
              have A9 := Aside0.mk A90
              clear A90
              obtain rfl := Option.some.inj H
              simp only [Option.some.injEq, Prod.mk.injEq] at H
              obtain ⟨rfl⟩ := H
              go_enter Tryd.func18, Tryd.ntmps18
              go_wp2_with (first | ((with_reducible refine gate_callee (f := 13) rfl ?_); refine goesL_ (some 7) rfl rfl Tryd.func13 (by kernel_rfl) rfl #[.string (⟨#[120, 32, 49]⟩ : ByteArray)] rfl (by (try simp only [List.map_toArray, List.map_cons, List.map_nil]); first | done | rfl | (simp only [List.length_drop, List.length_take]; rfl)) ?_; (with_reducible refine (words_Lines.calls k (⟨#[120, 32, 49]⟩ : ByteArray) t133 t134 t135 _ ?side1 A1.out).mono ?_); (case side1 => exact ⟨hL_.out.below (by repeat (first | (with_reducible first | exact HB.out | apply below_alloc | apply pw_below_drewN | apply below_drew1) | exact HB.out))⟩); rintro e w10 ⟨v136, rfl, ho0, hb⟩; refine ⟨_, rfl, ?_⟩; have n0_ := Aside0.mk (Kd.S_lower ho0 (below_size (by repeat (first | (with_reducible first | exact HB.out | apply below_alloc | apply pw_below_drewN | apply below_drew1) | exact HB.out)))); have n1_ := Aside0.mk (below_step (by repeat (first | (with_reducible first | exact HB.out | apply below_alloc | apply pw_below_drewN | apply below_drew1) | exact HB.out)) hb); clear HB; have HO137 := n0_; have HB := n1_; clear n0_ n1_; (try clear hb); (try clear hb2); (try clear hk); (try clear hi); (try clear ho0)) | ((with_reducible refine gate_callee (f := 14) rfl ?_); refine goesL_ (some 12) rfl rfl Tryd.func14 (by kernel_rfl) rfl #[.string (⟨#[45, 49, 50]⟩ : ByteArray)] rfl (by (try simp only [List.map_toArray, List.map_cons, List.map_nil]); first | done | rfl | (simp only [List.length_drop, List.length_take]; rfl)) ?_; (with_reducible refine (words_Number.calls (⟨#[45, 49, 50]⟩ : ByteArray) t138 true _ ?side1 A2.out).mono ?_); (case side1 => exact ⟨hL_.out.below (by repeat (first | (with_reducible first | exact HB.out | apply below_alloc | apply pw_below_drewN | apply below_drew1) | exact HB.out))⟩); rintro e w11 ⟨rfl, hb⟩; refine ⟨_, rfl, ?_⟩; have n0_ := Aside0.mk (Kd.S_below (by (with_reducible repeat (first | apply Kd.S_alloc | apply Kd.S_drewN | apply Kd.S_drew)); exact HO137.out) hb); have n1_ := Aside0.mk (below_step (by repeat (first | (with_reducible first | exact HB.out | apply below_alloc | apply pw_below_drewN | apply below_drew1) | exact HB.out)) hb); clear HO137; clear HB; have HO137 := n0_; have HB := n1_; clear n0_ n1_; (try clear hb); (try clear hb2); (try clear hk); (try clear hi); obtain ⟨Ao12, co12, eo12⟩ := Kd.S_slice HO137.out; subst eo12; have p140 : 0 ≤ (0 : Int) := (by omega); have q140 : 0 < (t133.length : Int) := of_decide_eq_true (by first | (with_reducible assumption) | assumption); obtain ⟨ad140, A140_0, c140_0, e140, hx140_0, hl140_0, hi140_0⟩ := at_L3 (Kd.S_reads' HO137.out).2.2 0 p140 q140; cases e140; obtain ⟨ce140, hce140, hMe140, hcc140⟩ := Kd.S_get HO137.out [] 0 p140 (by first | exact q140 | exact of_decide_eq_true (by first | (with_reducible assumption) | assumption) | (have e_ := (Kd.S_reads' HO137.out).1; omega)); obtain ⟨ve140_0, rfl, ge140_0⟩ := hMe140; have hv140_0 := hcc140 0 _ rfl; rw [Nat.add_zero, show ((Kd.slice 32 k32)).sz = 1 from rfl, Nat.mul_one] at hv140_0; replace hv140_0 := Option.some.inj (hv140_0.symm.trans hx140_0); rw [hv140_0] at ge140_0; have HL140_0 := Aside0.mk (show Kd.R k32 32 _ _ _ _ (rd_L3 t133 0) from ge140_0); clear hv140_0 ge140_0; clear hcc140 hce140; have qi140 : (0 < t133.length) = True := eq_true (by omega); (try rw [show ((0 : Int)).toNat = 0 from rfl] at hx140_0); (try rw [Addr.add_zero'] at hx140_0); have HR140_0 := Aside0.mk hi140_0; have HC140_0 := Aside0.mk hl140_0; clear hi140_0 hl140_0; replace p140 := eq_true p140; replace q140 := eq_true q140) | (go_at_call 19; (with_reducible refine (words_Name.calls k (⟨#[65, 95, 49]⟩ : ByteArray) t141 _ A9.out).mono ?_); rintro e w' ⟨rfl, ⟨nd, rfl⟩⟩))
              go_ret
              exact ⟨by first | rfl | (simp [errW_none, errW_some] <;> rfl) | (simp [*, errW_none, errW_some] <;> rfl), by repeat (first | (with_reducible first | exact HB.out | apply below_alloc | apply pw_below_drewN | apply below_drew1) | exact HB.out)⟩
            · replace c8 := Bool.eq_false_iff.mpr c8
              subst c8
              have H1 : (some false) = some r := by rw [if_neg (show ¬ (false = true) by decide)] at H; exact H
              clear H
              have H := H1
              clear H1
              obtain rfl := Option.some.inj H
              simp only [Option.some.injEq, Prod.mk.injEq] at H
              obtain ⟨rfl⟩ := H
              go_enter Tryd.func18, Tryd.ntmps18
              go_wp2_with (first | ((with_reducible refine gate_callee (f := 13) rfl ?_); refine goesL_ (some 7) rfl rfl Tryd.func13 (by kernel_rfl) rfl #[.string (⟨#[120, 32, 49]⟩ : ByteArray)] rfl (by (try simp only [List.map_toArray, List.map_cons, List.map_nil]); first | done | rfl | (simp only [List.length_drop, List.length_take]; rfl)) ?_; (with_reducible refine (words_Lines.calls k (⟨#[120, 32, 49]⟩ : ByteArray) t133 t134 t135 _ ?side1 A1.out).mono ?_); (case side1 => exact ⟨hL_.out.below (by repeat (first | (with_reducible first | exact HB.out | apply below_alloc | apply pw_below_drewN | apply below_drew1) | exact HB.out))⟩); rintro e w13 ⟨v136, rfl, ho0, hb⟩; refine ⟨_, rfl, ?_⟩; have n0_ := Aside0.mk (Kd.S_lower ho0 (below_size (by repeat (first | (with_reducible first | exact HB.out | apply below_alloc | apply pw_below_drewN | apply below_drew1) | exact HB.out)))); have n1_ := Aside0.mk (below_step (by repeat (first | (with_reducible first | exact HB.out | apply below_alloc | apply pw_below_drewN | apply below_drew1) | exact HB.out)) hb); clear HB; have HO137 := n0_; have HB := n1_; clear n0_ n1_; (try clear hb); (try clear hb2); (try clear hk); (try clear hi); (try clear ho0)) | ((with_reducible refine gate_callee (f := 14) rfl ?_); refine goesL_ (some 12) rfl rfl Tryd.func14 (by kernel_rfl) rfl #[.string (⟨#[45, 49, 50]⟩ : ByteArray)] rfl (by (try simp only [List.map_toArray, List.map_cons, List.map_nil]); first | done | rfl | (simp only [List.length_drop, List.length_take]; rfl)) ?_; (with_reducible refine (words_Number.calls (⟨#[45, 49, 50]⟩ : ByteArray) t138 false _ ?side1 A2.out).mono ?_); (case side1 => exact ⟨hL_.out.below (by repeat (first | (with_reducible first | exact HB.out | apply below_alloc | apply pw_below_drewN | apply below_drew1) | exact HB.out))⟩); rintro e w14 ⟨rfl, hb⟩; refine ⟨_, rfl, ?_⟩; have n0_ := Aside0.mk (Kd.S_below (by (with_reducible repeat (first | apply Kd.S_alloc | apply Kd.S_drewN | apply Kd.S_drew)); exact HO137.out) hb); have n1_ := Aside0.mk (below_step (by repeat (first | (with_reducible first | exact HB.out | apply below_alloc | apply pw_below_drewN | apply below_drew1) | exact HB.out)) hb); clear HO137; clear HB; have HO137 := n0_; have HB := n1_; clear n0_ n1_; (try clear hb); (try clear hb2); (try clear hk); (try clear hi); obtain ⟨Ao15, co15, eo15⟩ := Kd.S_slice HO137.out; subst eo15; have p140 : 0 ≤ (0 : Int) := (by omega); have q140 : 0 < (t133.length : Int) := of_decide_eq_true (by first | (with_reducible assumption) | assumption); obtain ⟨ad140, A140_0, c140_0, e140, hx140_0, hl140_0, hi140_0⟩ := at_L3 (Kd.S_reads' HO137.out).2.2 0 p140 q140; cases e140; obtain ⟨ce140, hce140, hMe140, hcc140⟩ := Kd.S_get HO137.out [] 0 p140 (by first | exact q140 | exact of_decide_eq_true (by first | (with_reducible assumption) | assumption) | (have e_ := (Kd.S_reads' HO137.out).1; omega)); obtain ⟨ve140_0, rfl, ge140_0⟩ := hMe140; have hv140_0 := hcc140 0 _ rfl; rw [Nat.add_zero, show ((Kd.slice 32 k32)).sz = 1 from rfl, Nat.mul_one] at hv140_0; replace hv140_0 := Option.some.inj (hv140_0.symm.trans hx140_0); rw [hv140_0] at ge140_0; have HL140_0 := Aside0.mk (show Kd.R k32 32 _ _ _ _ (rd_L3 t133 0) from ge140_0); clear hv140_0 ge140_0; clear hcc140 hce140; have qi140 : (0 < t133.length) = True := eq_true (by omega); (try rw [show ((0 : Int)).toNat = 0 from rfl] at hx140_0); (try rw [Addr.add_zero'] at hx140_0); have HR140_0 := Aside0.mk hi140_0; have HC140_0 := Aside0.mk hl140_0; clear hi140_0 hl140_0; replace p140 := eq_true p140; replace q140 := eq_true q140))
              go_ret
              exact ⟨by first | rfl | (simp [errW_none, errW_some] <;> rfl) | (simp [*, errW_none, errW_some] <;> rfl), by repeat (first | (with_reducible first | exact HB.out | apply below_alloc | apply pw_below_drewN | apply below_drew1) | exact HB.out)⟩
          · rw [if_neg c7] at H
            have c7b0 : (t138 == (-12)) = false := beq_eq_false_iff_ne.mpr c7
            have c7b1 : (t138 != (-12)) = true := bne_iff_ne.mpr c7
            obtain rfl := Option.some.inj H
            simp only [Option.some.injEq, Prod.mk.injEq] at H
            obtain ⟨rfl⟩ := H
            go_enter Tryd.func18, Tryd.ntmps18
            go_wp2_with (first | ((with_reducible refine gate_callee (f := 13) rfl ?_); refine goesL_ (some 7) rfl rfl Tryd.func13 (by kernel_rfl) rfl #[.string (⟨#[120, 32, 49]⟩ : ByteArray)] rfl (by (try simp only [List.map_toArray, List.map_cons, List.map_nil]); first | done | rfl | (simp only [List.length_drop, List.length_take]; rfl)) ?_; (with_reducible refine (words_Lines.calls k (⟨#[120, 32, 49]⟩ : ByteArray) t133 t134 t135 _ ?side1 A1.out).mono ?_); (case side1 => exact ⟨hL_.out.below (by repeat (first | (with_reducible first | exact HB.out | apply below_alloc | apply pw_below_drewN | apply below_drew1) | exact HB.out))⟩); rintro e w16 ⟨v136, rfl, ho0, hb⟩; refine ⟨_, rfl, ?_⟩; have n0_ := Aside0.mk (Kd.S_lower ho0 (below_size (by repeat (first | (with_reducible first | exact HB.out | apply below_alloc | apply pw_below_drewN | apply below_drew1) | exact HB.out)))); have n1_ := Aside0.mk (below_step (by repeat (first | (with_reducible first | exact HB.out | apply below_alloc | apply pw_below_drewN | apply below_drew1) | exact HB.out)) hb); clear HB; have HO137 := n0_; have HB := n1_; clear n0_ n1_; (try clear hb); (try clear hb2); (try clear hk); (try clear hi); (try clear ho0)) | ((with_reducible refine gate_callee (f := 14) rfl ?_); refine goesL_ (some 12) rfl rfl Tryd.func14 (by kernel_rfl) rfl #[.string (⟨#[45, 49, 50]⟩ : ByteArray)] rfl (by (try simp only [List.map_toArray, List.map_cons, List.map_nil]); first | done | rfl | (simp only [List.length_drop, List.length_take]; rfl)) ?_; (with_reducible refine (words_Number.calls (⟨#[45, 49, 50]⟩ : ByteArray) t138 t139 _ ?side1 A2.out).mono ?_); (case side1 => exact ⟨hL_.out.below (by repeat (first | (with_reducible first | exact HB.out | apply below_alloc | apply pw_below_drewN | apply below_drew1) | exact HB.out))⟩); rintro e w17 ⟨rfl, hb⟩; refine ⟨_, rfl, ?_⟩; have n0_ := Aside0.mk (Kd.S_below (by (with_reducible repeat (first | apply Kd.S_alloc | apply Kd.S_drewN | apply Kd.S_drew)); exact HO137.out) hb); have n1_ := Aside0.mk (below_step (by repeat (first | (with_reducible first | exact HB.out | apply below_alloc | apply pw_below_drewN | apply below_drew1) | exact HB.out)) hb); clear HO137; clear HB; have HO137 := n0_; have HB := n1_; clear n0_ n1_; (try clear hb); (try clear hb2); (try clear hk); (try clear hi); obtain ⟨Ao18, co18, eo18⟩ := Kd.S_slice HO137.out; subst eo18; have p140 : 0 ≤ (0 : Int) := (by omega); have q140 : 0 < (t133.length : Int) := of_decide_eq_true (by first | (with_reducible assumption) | assumption); obtain ⟨ad140, A140_0, c140_0, e140, hx140_0, hl140_0, hi140_0⟩ := at_L3 (Kd.S_reads' HO137.out).2.2 0 p140 q140; cases e140; obtain ⟨ce140, hce140, hMe140, hcc140⟩ := Kd.S_get HO137.out [] 0 p140 (by first | exact q140 | exact of_decide_eq_true (by first | (with_reducible assumption) | assumption) | (have e_ := (Kd.S_reads' HO137.out).1; omega)); obtain ⟨ve140_0, rfl, ge140_0⟩ := hMe140; have hv140_0 := hcc140 0 _ rfl; rw [Nat.add_zero, show ((Kd.slice 32 k32)).sz = 1 from rfl, Nat.mul_one] at hv140_0; replace hv140_0 := Option.some.inj (hv140_0.symm.trans hx140_0); rw [hv140_0] at ge140_0; have HL140_0 := Aside0.mk (show Kd.R k32 32 _ _ _ _ (rd_L3 t133 0) from ge140_0); clear hv140_0 ge140_0; clear hcc140 hce140; have qi140 : (0 < t133.length) = True := eq_true (by omega); (try rw [show ((0 : Int)).toNat = 0 from rfl] at hx140_0); (try rw [Addr.add_zero'] at hx140_0); have HR140_0 := Aside0.mk hi140_0; have HC140_0 := Aside0.mk hl140_0; clear hi140_0 hl140_0; replace p140 := eq_true p140; replace q140 := eq_true q140))
            go_ret
            exact ⟨by first | rfl | (simp [errW_none, errW_some] <;> rfl) | (simp [*, errW_none, errW_some] <;> rfl), by repeat (first | (with_reducible first | exact HB.out | apply below_alloc | apply pw_below_drewN | apply below_drew1) | exact HB.out)⟩
        · rw [if_neg c6] at H
          have c6b0 : (((rd_L3 t133 0).length : Int) == 2) = false := beq_eq_false_iff_ne.mpr c6
          have c6b1 : (((rd_L3 t133 0).length : Int) != 2) = true := bne_iff_ne.mpr c6
          obtain rfl := Option.some.inj H
          simp only [Option.some.injEq, Prod.mk.injEq] at H
          obtain ⟨rfl⟩ := H
          go_enter Tryd.func18, Tryd.ntmps18
          go_wp2_with (first | ((with_reducible refine gate_callee (f := 13) rfl ?_); refine goesL_ (some 7) rfl rfl Tryd.func13 (by kernel_rfl) rfl #[.string (⟨#[120, 32, 49]⟩ : ByteArray)] rfl (by (try simp only [List.map_toArray, List.map_cons, List.map_nil]); first | done | rfl | (simp only [List.length_drop, List.length_take]; rfl)) ?_; (with_reducible refine (words_Lines.calls k (⟨#[120, 32, 49]⟩ : ByteArray) t133 t134 t135 _ ?side1 A1.out).mono ?_); (case side1 => exact ⟨hL_.out.below (by repeat (first | (with_reducible first | exact HB.out | apply below_alloc | apply pw_below_drewN | apply below_drew1) | exact HB.out))⟩); rintro e w19 ⟨v136, rfl, ho0, hb⟩; refine ⟨_, rfl, ?_⟩; have n0_ := Aside0.mk (Kd.S_lower ho0 (below_size (by repeat (first | (with_reducible first | exact HB.out | apply below_alloc | apply pw_below_drewN | apply below_drew1) | exact HB.out)))); have n1_ := Aside0.mk (below_step (by repeat (first | (with_reducible first | exact HB.out | apply below_alloc | apply pw_below_drewN | apply below_drew1) | exact HB.out)) hb); clear HB; have HO137 := n0_; have HB := n1_; clear n0_ n1_; (try clear hb); (try clear hb2); (try clear hk); (try clear hi); (try clear ho0)) | ((with_reducible refine gate_callee (f := 14) rfl ?_); refine goesL_ (some 12) rfl rfl Tryd.func14 (by kernel_rfl) rfl #[.string (⟨#[45, 49, 50]⟩ : ByteArray)] rfl (by (try simp only [List.map_toArray, List.map_cons, List.map_nil]); first | done | rfl | (simp only [List.length_drop, List.length_take]; rfl)) ?_; (with_reducible refine (words_Number.calls (⟨#[45, 49, 50]⟩ : ByteArray) t138 t139 _ ?side1 A2.out).mono ?_); (case side1 => exact ⟨hL_.out.below (by repeat (first | (with_reducible first | exact HB.out | apply below_alloc | apply pw_below_drewN | apply below_drew1) | exact HB.out))⟩); rintro e w20 ⟨rfl, hb⟩; refine ⟨_, rfl, ?_⟩; have n0_ := Aside0.mk (Kd.S_below (by (with_reducible repeat (first | apply Kd.S_alloc | apply Kd.S_drewN | apply Kd.S_drew)); exact HO137.out) hb); have n1_ := Aside0.mk (below_step (by repeat (first | (with_reducible first | exact HB.out | apply below_alloc | apply pw_below_drewN | apply below_drew1) | exact HB.out)) hb); clear HO137; clear HB; have HO137 := n0_; have HB := n1_; clear n0_ n1_; (try clear hb); (try clear hb2); (try clear hk); (try clear hi); obtain ⟨Ao21, co21, eo21⟩ := Kd.S_slice HO137.out; subst eo21; have p140 : 0 ≤ (0 : Int) := (by omega); have q140 : 0 < (t133.length : Int) := of_decide_eq_true (by first | (with_reducible assumption) | assumption); obtain ⟨ad140, A140_0, c140_0, e140, hx140_0, hl140_0, hi140_0⟩ := at_L3 (Kd.S_reads' HO137.out).2.2 0 p140 q140; cases e140; obtain ⟨ce140, hce140, hMe140, hcc140⟩ := Kd.S_get HO137.out [] 0 p140 (by first | exact q140 | exact of_decide_eq_true (by first | (with_reducible assumption) | assumption) | (have e_ := (Kd.S_reads' HO137.out).1; omega)); obtain ⟨ve140_0, rfl, ge140_0⟩ := hMe140; have hv140_0 := hcc140 0 _ rfl; rw [Nat.add_zero, show ((Kd.slice 32 k32)).sz = 1 from rfl, Nat.mul_one] at hv140_0; replace hv140_0 := Option.some.inj (hv140_0.symm.trans hx140_0); rw [hv140_0] at ge140_0; have HL140_0 := Aside0.mk (show Kd.R k32 32 _ _ _ _ (rd_L3 t133 0) from ge140_0); clear hv140_0 ge140_0; clear hcc140 hce140; have qi140 : (0 < t133.length) = True := eq_true (by omega); (try rw [show ((0 : Int)).toNat = 0 from rfl] at hx140_0); (try rw [Addr.add_zero'] at hx140_0); have HR140_0 := Aside0.mk hi140_0; have HC140_0 := Aside0.mk hl140_0; clear hi140_0 hl140_0; replace p140 := eq_true p140; replace q140 := eq_true q140))
          go_ret
          exact ⟨by first | rfl | (simp [errW_none, errW_some] <;> rfl) | (simp [*, errW_none, errW_some] <;> rfl), by repeat (first | (with_reducible first | exact HB.out | apply below_alloc | apply pw_below_drewN | apply below_drew1) | exact HB.out)⟩
      · rw [if_neg c5] at H
        exact absurd H (by simp)
    · rw [if_neg c4] at H
      have c4b0 : ((t133.length : Int) == 1) = false := beq_eq_false_iff_ne.mpr c4
      have c4b1 : ((t133.length : Int) != 1) = true := bne_iff_ne.mpr c4
      obtain rfl := Option.some.inj H
      simp only [Option.some.injEq, Prod.mk.injEq] at H
      obtain ⟨rfl⟩ := H
      go_enter Tryd.func18, Tryd.ntmps18
      go_wp2_with (first | ((with_reducible refine gate_callee (f := 13) rfl ?_); refine goesL_ (some 7) rfl rfl Tryd.func13 (by kernel_rfl) rfl #[.string (⟨#[120, 32, 49]⟩ : ByteArray)] rfl (by (try simp only [List.map_toArray, List.map_cons, List.map_nil]); first | done | rfl | (simp only [List.length_drop, List.length_take]; rfl)) ?_; (with_reducible refine (words_Lines.calls k (⟨#[120, 32, 49]⟩ : ByteArray) t133 t134 t135 _ ?side1 A1.out).mono ?_); (case side1 => exact ⟨hL_.out.below (by repeat (first | (with_reducible first | exact HB.out | apply below_alloc | apply pw_below_drewN | apply below_drew1) | exact HB.out))⟩); rintro e w22 ⟨v136, rfl, ho0, hb⟩; refine ⟨_, rfl, ?_⟩; have n0_ := Aside0.mk (Kd.S_lower ho0 (below_size (by repeat (first | (with_reducible first | exact HB.out | apply below_alloc | apply pw_below_drewN | apply below_drew1) | exact HB.out)))); have n1_ := Aside0.mk (below_step (by repeat (first | (with_reducible first | exact HB.out | apply below_alloc | apply pw_below_drewN | apply below_drew1) | exact HB.out)) hb); clear HB; have HO137 := n0_; have HB := n1_; clear n0_ n1_; (try clear hb); (try clear hb2); (try clear hk); (try clear hi); (try clear ho0)) | ((with_reducible refine gate_callee (f := 14) rfl ?_); refine goesL_ (some 12) rfl rfl Tryd.func14 (by kernel_rfl) rfl #[.string (⟨#[45, 49, 50]⟩ : ByteArray)] rfl (by (try simp only [List.map_toArray, List.map_cons, List.map_nil]); first | done | rfl | (simp only [List.length_drop, List.length_take]; rfl)) ?_; (with_reducible refine (words_Number.calls (⟨#[45, 49, 50]⟩ : ByteArray) t138 t139 _ ?side1 A2.out).mono ?_); (case side1 => exact ⟨hL_.out.below (by repeat (first | (with_reducible first | exact HB.out | apply below_alloc | apply pw_below_drewN | apply below_drew1) | exact HB.out))⟩); rintro e w23 ⟨rfl, hb⟩; refine ⟨_, rfl, ?_⟩; have n0_ := Aside0.mk (Kd.S_below (by (with_reducible repeat (first | apply Kd.S_alloc | apply Kd.S_drewN | apply Kd.S_drew)); exact HO137.out) hb); have n1_ := Aside0.mk (below_step (by repeat (first | (with_reducible first | exact HB.out | apply below_alloc | apply pw_below_drewN | apply below_drew1) | exact HB.out)) hb); clear HO137; clear HB; have HO137 := n0_; have HB := n1_; clear n0_ n1_; (try clear hb); (try clear hb2); (try clear hk); (try clear hi); obtain ⟨Ao24, co24, eo24⟩ := Kd.S_slice HO137.out; subst eo24))
      go_ret
      exact ⟨by first | rfl | (simp [errW_none, errW_some] <;> rfl) | (simp [*, errW_none, errW_some] <;> rfl), by repeat (first | (with_reducible first | exact HB.out | apply below_alloc | apply pw_below_drewN | apply below_drew1) | exact HB.out)⟩
  · rw [if_neg c3] at H
    have c3b0 : (t135 == 0) = false := beq_eq_false_iff_ne.mpr c3
    have c3b1 : (t135 != 0) = true := bne_iff_ne.mpr c3
    obtain rfl := Option.some.inj H
    simp only [Option.some.injEq, Prod.mk.injEq] at H
    obtain ⟨rfl⟩ := H
    go_enter Tryd.func18, Tryd.ntmps18
    go_wp2_with (first | ((with_reducible refine gate_callee (f := 13) rfl ?_); refine goesL_ (some 7) rfl rfl Tryd.func13 (by kernel_rfl) rfl #[.string (⟨#[120, 32, 49]⟩ : ByteArray)] rfl (by (try simp only [List.map_toArray, List.map_cons, List.map_nil]); first | done | rfl | (simp only [List.length_drop, List.length_take]; rfl)) ?_; (with_reducible refine (words_Lines.calls k (⟨#[120, 32, 49]⟩ : ByteArray) t133 t134 t135 _ ?side1 A1.out).mono ?_); (case side1 => exact ⟨hL_.out.below (by repeat (first | (with_reducible first | exact HB.out | apply below_alloc | apply pw_below_drewN | apply below_drew1) | exact HB.out))⟩); rintro e w25 ⟨v136, rfl, ho0, hb⟩; refine ⟨_, rfl, ?_⟩; have n0_ := Aside0.mk (Kd.S_lower ho0 (below_size (by repeat (first | (with_reducible first | exact HB.out | apply below_alloc | apply pw_below_drewN | apply below_drew1) | exact HB.out)))); have n1_ := Aside0.mk (below_step (by repeat (first | (with_reducible first | exact HB.out | apply below_alloc | apply pw_below_drewN | apply below_drew1) | exact HB.out)) hb); clear HB; have HO137 := n0_; have HB := n1_; clear n0_ n1_; (try clear hb); (try clear hb2); (try clear hk); (try clear hi); (try clear ho0)) | ((with_reducible refine gate_callee (f := 14) rfl ?_); refine goesL_ (some 12) rfl rfl Tryd.func14 (by kernel_rfl) rfl #[.string (⟨#[45, 49, 50]⟩ : ByteArray)] rfl (by (try simp only [List.map_toArray, List.map_cons, List.map_nil]); first | done | rfl | (simp only [List.length_drop, List.length_take]; rfl)) ?_; (with_reducible refine (words_Number.calls (⟨#[45, 49, 50]⟩ : ByteArray) t138 t139 _ ?side1 A2.out).mono ?_); (case side1 => exact ⟨hL_.out.below (by repeat (first | (with_reducible first | exact HB.out | apply below_alloc | apply pw_below_drewN | apply below_drew1) | exact HB.out))⟩); rintro e w26 ⟨rfl, hb⟩; refine ⟨_, rfl, ?_⟩; have n0_ := Aside0.mk (Kd.S_below (by (with_reducible repeat (first | apply Kd.S_alloc | apply Kd.S_drewN | apply Kd.S_drew)); exact HO137.out) hb); have n1_ := Aside0.mk (below_step (by repeat (first | (with_reducible first | exact HB.out | apply below_alloc | apply pw_below_drewN | apply below_drew1) | exact HB.out)) hb); clear HO137; clear HB; have HO137 := n0_; have HB := n1_; clear n0_ n1_; (try clear hb); (try clear hb2); (try clear hk); (try clear hi)))
    go_ret
    exact ⟨by first | rfl | (simp [errW_none, errW_some] <;> rfl) | (simp [*, errW_none, errW_some] <;> rfl), by repeat (first | (with_reducible first | exact HB.out | apply below_alloc | apply pw_below_drewN | apply below_drew1) | exact HB.out)⟩

end Go.Proofs.YtnmbljpifadipaaDoor.X
