/- Written by a program of this claim. Proved: each Go function named below, called with any arguments at which its Lean function answers, returns that answer; or, of a law, its given statement. -/
import Derived.Test.YtnmbljpifadipaaDoorX0
import Derived.Test.YtnmbljpifadipaaDoorX3
import Derived.Test.YtnmbljpifadipaaDoorX4
import Derived.Test.YtnmbljpifadipaaDoorX9
import Derived.Test.YtnmbljpifadipaaDoorQJoin
namespace Go.Proofs.YtnmbljpifadipaaDoor.X
open Go.RowKit Go.Proofs.YtnmbljpifadipaaDoorW Go.Proofs.YtnmbljpifadipaaDoorW.PrintWords Go.Proofs.YtnmbljpifadipaaDoorW.PrintLast Go.Proofs.YtnmbljpifadipaaDoorW.PrintMore
attribute [local go_sem] max2_int min2_int max_two min_two max_three min_three max_four min_four   -- for this text's walks alone
set_option linter.unusedVariables false
set_option linter.unusedSimpArgs false

/-! ### railplanref1_Join: function 27 -/
mutual
def railplanref1_Join.l0 : Nat → List (List ByteArray) → ByteArray → Int → Option (ByteArray)
  | 0, _, _, _ => none
  | k + 1, x0, x3, x4 => if x4 < (x0.length : Int) then (if 0 ≤ x4 then (if ((rd_L5 x0 x4).length : Int) < 1 then (railplanref1_Join.j1 k x0 x3 x4 true) else (railplanref1_Join.j1 k x0 x3 x4 (decide (((rd_L5 x0 x4).length : Int) > 64)))) else (none)) else (some x3)
def railplanref1_Join.j1 : Nat → List (List ByteArray) → ByteArray → Int → Bool → Option (ByteArray)
  | 0, _, _, _, _ => none
  | k + 1, x0, x3, x4, x26 => if x26 = true then (some (⟨#[]⟩ : ByteArray)) else (railplanref1_Join.l1 k x0 x3 x4 0)
def railplanref1_Join.l1 : Nat → List (List ByteArray) → ByteArray → Int → Int → Option (ByteArray)
  | 0, _, _, _, _ => none
  | k + 1, x0, x3, x4, x5 => if 0 ≤ x4 then (if x4 < (x0.length : Int) then (if x5 < ((rd_L5 x0 x4).length : Int) then (if 0 ≤ x5 then (if ((rdOf ByteArray.empty (rd_L5 x0 x4) x5).size : Int) < 1 then (some (⟨#[]⟩ : ByteArray)) else (railplanref1_Join.l2 k x0 x3 x4 x5 0)) else (none)) else (if x3.size + 1 ≤ 9223372036854775807 then (railplanref1_Join.l0 k x0 (x3 ++ (⟨#[10]⟩ : ByteArray)) (wrap64 (x4 + 1))) else (none))) else (none)) else (none)
def railplanref1_Join.l2 : Nat → List (List ByteArray) → ByteArray → Int → Int → Int → Option (ByteArray)
  | 0, _, _, _, _, _ => none
  | k + 1, x0, x3, x4, x5, x6 => if 0 ≤ x4 then (if x4 < (x0.length : Int) then (if 0 ≤ x5 then (if x5 < ((rd_L5 x0 x4).length : Int) then (if x6 < ((rdOf ByteArray.empty (rd_L5 x0 x4) x5).size : Int) then (if 0 ≤ x6 then ((railplanref1_plain.f (bt (rdOf ByteArray.empty (rd_L5 x0 x4) x5) x6)).bind fun t277 => (if t277 = true then (railplanref1_Join.l2 k x0 x3 x4 x5 (wrap64 (x6 + 1))) else (some (⟨#[]⟩ : ByteArray)))) else (none)) else (if x5 > 0 then (if x3.size + 1 ≤ 9223372036854775807 then (if x3.size + 1 + (rdOf ByteArray.empty (rd_L5 x0 x4) x5).size ≤ 9223372036854775807 then (railplanref1_Join.l1 k x0 ((x3 ++ (⟨#[32]⟩ : ByteArray)) ++ (rdOf ByteArray.empty (rd_L5 x0 x4) x5)) x4 (wrap64 (x5 + 1))) else (none)) else (none)) else (if x3.size + (rdOf ByteArray.empty (rd_L5 x0 x4) x5).size ≤ 9223372036854775807 then (railplanref1_Join.l1 k x0 (x3 ++ (rdOf ByteArray.empty (rd_L5 x0 x4) x5)) x4 (wrap64 (x5 + 1))) else (none)))) else (none)) else (none)) else (none)) else (none)
end
def railplanref1_Join.f (k : Nat) (l0 : List (List ByteArray)) : Option (ByteArray) := railplanref1_Join.l0 k l0 (⟨#[]⟩ : ByteArray) 0
theorem railplanref1_Join.mono_l : ∀ k, (∀ y0 y1 y2, LeO (railplanref1_Join.l0 k y0 y1 y2) (railplanref1_Join.l0 (k + 1) y0 y1 y2)) ∧ (∀ y0 y1 y2 y3, LeO (railplanref1_Join.j1 k y0 y1 y2 y3) (railplanref1_Join.j1 (k + 1) y0 y1 y2 y3)) ∧ (∀ y0 y1 y2 y3, LeO (railplanref1_Join.l1 k y0 y1 y2 y3) (railplanref1_Join.l1 (k + 1) y0 y1 y2 y3)) ∧ (∀ y0 y1 y2 y3 y4, LeO (railplanref1_Join.l2 k y0 y1 y2 y3 y4) (railplanref1_Join.l2 (k + 1) y0 y1 y2 y3 y4))
  | 0 => ⟨fun _ _ _ r h => by simp [railplanref1_Join.l0] at h, fun _ _ _ _ r h => by simp [railplanref1_Join.j1] at h, fun _ _ _ _ r h => by simp [railplanref1_Join.l1] at h, fun _ _ _ _ _ r h => by simp [railplanref1_Join.l2] at h⟩
  | k + 1 => by
    obtain ⟨ih0, ih1, ih2, ih3⟩ := railplanref1_Join.mono_l k
    refine ⟨?_, ?_, ?_, ?_⟩
    · intro y0 y1 y2
      unfold railplanref1_Join.l0
      repeat' first
      | (with_reducible exact ih0 _ _ _)
      | (with_reducible exact ih1 _ _ _ _)
      | (with_reducible exact ih2 _ _ _ _)
      | (with_reducible exact ih3 _ _ _ _ _)
      | (with_reducible exact LeO.refl _)
      | (with_reducible exact LeO.none _)
      | (with_reducible refine LeO.ite ?_ ?_)
      | (with_reducible refine LeO.bind ?_ (fun _ => ?_))
      | exact ih0 _ _ _
      | exact ih1 _ _ _ _
      | exact ih2 _ _ _ _
      | exact ih3 _ _ _ _ _
      | exact LeO.none _
      | refine LeO.ite ?_ ?_
      | refine LeO.bind ?_ (fun _ => ?_)
    · intro y0 y1 y2 y3
      unfold railplanref1_Join.j1
      repeat' first
      | (with_reducible exact ih0 _ _ _)
      | (with_reducible exact ih1 _ _ _ _)
      | (with_reducible exact ih2 _ _ _ _)
      | (with_reducible exact ih3 _ _ _ _ _)
      | (with_reducible exact LeO.refl _)
      | (with_reducible exact LeO.none _)
      | (with_reducible refine LeO.ite ?_ ?_)
      | (with_reducible refine LeO.bind ?_ (fun _ => ?_))
      | exact ih0 _ _ _
      | exact ih1 _ _ _ _
      | exact ih2 _ _ _ _
      | exact ih3 _ _ _ _ _
      | exact LeO.none _
      | refine LeO.ite ?_ ?_
      | refine LeO.bind ?_ (fun _ => ?_)
    · intro y0 y1 y2 y3
      unfold railplanref1_Join.l1
      repeat' first
      | (with_reducible exact ih0 _ _ _)
      | (with_reducible exact ih1 _ _ _ _)
      | (with_reducible exact ih2 _ _ _ _)
      | (with_reducible exact ih3 _ _ _ _ _)
      | (with_reducible exact LeO.refl _)
      | (with_reducible exact LeO.none _)
      | (with_reducible refine LeO.ite ?_ ?_)
      | (with_reducible refine LeO.bind ?_ (fun _ => ?_))
      | exact ih0 _ _ _
      | exact ih1 _ _ _ _
      | exact ih2 _ _ _ _
      | exact ih3 _ _ _ _ _
      | exact LeO.none _
      | refine LeO.ite ?_ ?_
      | refine LeO.bind ?_ (fun _ => ?_)
    · intro y0 y1 y2 y3 y4
      unfold railplanref1_Join.l2
      repeat' first
      | (with_reducible exact ih0 _ _ _)
      | (with_reducible exact ih1 _ _ _ _)
      | (with_reducible exact ih2 _ _ _ _)
      | (with_reducible exact ih3 _ _ _ _ _)
      | (with_reducible exact LeO.refl _)
      | (with_reducible exact LeO.none _)
      | (with_reducible refine LeO.ite ?_ ?_)
      | (with_reducible refine LeO.bind ?_ (fun _ => ?_))
      | exact ih0 _ _ _
      | exact ih1 _ _ _ _
      | exact ih2 _ _ _ _
      | exact ih3 _ _ _ _ _
      | exact LeO.none _
      | refine LeO.ite ?_ ?_
      | refine LeO.bind ?_ (fun _ => ?_)
theorem railplanref1_Join.mono : ∀ a0 k, LeO (railplanref1_Join.f k a0) (railplanref1_Join.f (k + 1) a0) := by
  intro a0 k
  obtain ⟨ih0, ih1, ih2, ih3⟩ := railplanref1_Join.mono_l k
  unfold railplanref1_Join.f
  repeat' first
      | (with_reducible exact ih0 _ _ _)
      | (with_reducible exact ih1 _ _ _ _)
      | (with_reducible exact ih2 _ _ _ _)
      | (with_reducible exact ih3 _ _ _ _ _)
      | (with_reducible exact LeO.refl _)
      | (with_reducible exact LeO.none _)
      | (with_reducible refine LeO.ite ?_ ?_)
      | (with_reducible refine LeO.bind ?_ (fun _ => ?_))
      | exact ih0 _ _ _
      | exact ih1 _ _ _ _
      | exact ih2 _ _ _ _
      | exact ih3 _ _ _ _ _
      | exact LeO.none _
      | refine LeO.ite ?_ ?_
      | refine LeO.bind ?_ (fun _ => ?_)
set_option maxHeartbeats 8000000 in
set_option maxRecDepth 100000 in
theorem railplanref1_Join.calls (k : Nat) (A0 : Option Addr) (c0 : Nat) (l0 : List (List ByteArray)) (r : ByteArray) (w : World) (hr0 : Kd.C (Kd.slice 9 Kd.string) w A0 l0.length l0) (hc0 : l0.length ≤ c0) (h : railplanref1_Join.f k l0 = some r) :
    Calls Tryd.prog 27 #[.slice A0 l0.length c0] w fun e w' => e = .returned (.string r) ∧ Drawn0 w w' := by
  have HR0 := Aside0.mk hr0
  have HC0 := Aside0.mk hc0
  clear hr0 hc0
  have H : (railplanref1_Join.l0 k l0 (⟨#[]⟩ : ByteArray) 0) = some r := h
  clear h
  have H' := Aside0.mk H
  clear H
  go_enter Tryd.func27, Tryd.ntmps27
  go_wp2
  go_loopg [3, 4] k (fun kq v3 v4 w' => ∃ (x3_1 : ByteArray) (x4_1 : Int), v3 = .string x3_1 ∧ v4 = .int .i64 x4_1 ∧ Aside0 (railplanref1_Join.l0 kq l0 x3_1 x4_1 = some r) ∧ Aside0 (kq ≤ k) ∧ Drawn0 w w')
  case atStart => exact ⟨((⟨#[]⟩ : ByteArray)), (0), (by first | rfl | (simp; done) | (simp [*]; done)), (by first | rfl | (simp; done) | (simp [*]; done)), H', ⟨Nat.le_refl _⟩, by repeat (first | exact Drawn0.refl _ | apply Drawn0.step)⟩
  case round =>
    clear H'
    obtain ⟨x3_1, x4_1, rfl, rfl, HA, HK1, ⟨m1, rfl⟩⟩ := hrel
    cases gk with
    | zero => exact absurd HA.out (by simp [railplanref1_Join.l0])
    | succ k1 =>
      have H := HA.out
      clear HA
      simp only [railplanref1_Join.l0] at H
      by_cases c2 : x4_1 < (l0.length : Int)
      · rw [if_pos c2] at H
        have c2b0 : decide (x4_1 < (l0.length : Int)) = true := decide_eq_true c2
        clear c2
        have HC3 := Aside0.mk H
        clear H
        go_upto_region 5 with (fail)
        go_cut [26] (fun v26 wc => ∃ (kq : Nat) (x26_2 : Bool), v26 = .bool x26_2 ∧ Aside0 (railplanref1_Join.j1 kq l0 x3_1 x4_1 x26_2 = some r) ∧ Aside0 (kq ≤ k1) ∧ Drawn0 w wc)
        case first =>
          have H := HC3.out
          clear HC3
          by_cases c4 : 0 ≤ x4_1
          · rw [if_pos c4] at H
            have c4b0 : decide (0 ≤ x4_1) = true := decide_eq_true c4
            clear c4
            (first | rw [c4b0] | (simp only [i64_w, i32_w]; rw [c4b0]) | rw [c4b1] | skip)
            by_cases c5 : ((rd_L5 l0 x4_1).length : Int) < 1
            · rw [if_pos c5] at H
              have c5b0 : decide (((rd_L5 l0 x4_1).length : Int) < 1) = true := decide_eq_true c5
              have c5b1 : decide ((rd_L5 l0 x4_1).length < 1) = true := decide_eq_true (by omega)
              clear c5
              have H' := Aside0.mk H
              clear H
              have p268 : 0 ≤ (x4_1 : Int) := of_decide_eq_true (by first | (with_reducible assumption) | assumption)
              have q268 : x4_1 < (l0.length : Int) := of_decide_eq_true (by first | (with_reducible assumption) | assumption)
              obtain ⟨ad268, A268_0, c268_0, e268, hx268_0, hl268_0, hi268_0⟩ := at_L5 HR0.out x4_1 p268 q268
              cases e268
              have HR268_0 := Aside0.mk hi268_0
              have HC268_0 := Aside0.mk hl268_0
              clear hi268_0 hl268_0
              replace p268 := eq_true p268
              replace q268 := eq_true q268
              go_wp2
              go_meet
              case rel => exact ⟨_, (true), (by first | rfl | (simp; done) | (simp [*]; done)), H', ⟨by have := HK1.out; first | omega | exact Nat.le_refl _⟩, by repeat (first | exact Drawn0.refl _ | apply Drawn0.step)⟩
            · rw [if_neg c5] at H
              have c5b0 : decide (((rd_L5 l0 x4_1).length : Int) < 1) = false := decide_eq_false c5
              have c5b1 : decide ((rd_L5 l0 x4_1).length < 1) = false := decide_eq_false (by omega)
              clear c5
              have H' := Aside0.mk H
              clear H
              have p268 : 0 ≤ (x4_1 : Int) := of_decide_eq_true (by first | (with_reducible assumption) | assumption)
              have q268 : x4_1 < (l0.length : Int) := of_decide_eq_true (by first | (with_reducible assumption) | assumption)
              obtain ⟨ad268, A268_0, c268_0, e268, hx268_0, hl268_0, hi268_0⟩ := at_L5 HR0.out x4_1 p268 q268
              cases e268
              have HR268_0 := Aside0.mk hi268_0
              have HC268_0 := Aside0.mk hl268_0
              clear hi268_0 hl268_0
              replace p268 := eq_true p268
              replace q268 := eq_true q268
              have p269 : 0 ≤ (x4_1 : Int) := of_decide_eq_true (by first | (with_reducible assumption) | assumption)
              have q269 : x4_1 < (l0.length : Int) := of_decide_eq_true (by first | (with_reducible assumption) | assumption)
              obtain ⟨ad269, A269_0, c269_0, e269, hx269_0, hl269_0, hi269_0⟩ := at_L5 HR0.out x4_1 p269 q269
              obtain rfl : ad268 = ad269 := (by injection e269)
              have HR269_0 := Aside0.mk hi269_0
              have HC269_0 := Aside0.mk hl269_0
              clear hi269_0 hl269_0
              replace p269 := eq_true p269
              replace q269 := eq_true q269
              have ea_ := Option.some.inj (hx268_0.symm.trans hx269_0)
              injection ea_ with ea_ en_ ec_
              subst ea_
              subst ec_
              clear en_
              go_wp2
              go_meet
              case rel => exact ⟨_, (decide (((rd_L5 l0 x4_1).length : Int) > 64)), (by first | rfl | (simp; done) | (simp [*]; done)), H', ⟨by have := HK1.out; first | omega | exact Nat.le_refl _⟩, by repeat (first | exact Drawn0.refl _ | apply Drawn0.step)⟩
          · rw [if_neg c4] at H
            exact absurd H (by simp)
        case rest =>
          clear HC3
          try clear c2
          try clear c2b0
          try clear p2
          try clear q2
          try clear hx2
          try clear c4
          try clear c4b0
          try clear c4b1
          try clear c5
          try clear c5b0
          try clear c5b1
          try clear hx268_0
          try clear hx269_0
          try clear p268
          try clear p269
          try clear q268
          try clear q269
          obtain ⟨kq, x26_2, rfl, HA, HJ2, ⟨mc2, rfl⟩⟩ := hcut
          cases kq with
          | zero => exact absurd HA.out (by simp [railplanref1_Join.j1])
          | succ kj2 =>
            have H := HA.out
            clear HA
            simp only [railplanref1_Join.j1] at H
            by_cases c6 : x26_2 = true
            · subst c6
              have H1 : (some (⟨#[]⟩ : ByteArray)) = some r := by rw [if_pos rfl] at H; exact H
              clear H
              have H := H1
              clear H1
              obtain rfl := Option.some.inj H
              simp only [Option.some.injEq, Prod.mk.injEq] at H
              obtain ⟨rfl⟩ := H
              go_wp2
              go_ret
              exact ⟨by first | rfl | (simp; done) | (simp [*]; done), by repeat (first | exact Drawn0.refl _ | apply Drawn0.step)⟩
            · replace c6 := Bool.eq_false_iff.mpr c6
              subst c6
              have H1 : (railplanref1_Join.l1 kj2 l0 x3_1 x4_1 0) = some r := by rw [if_neg (show ¬ (false = true) by decide)] at H; exact H
              clear H
              have H := H1
              clear H1
              have H' := Aside0.mk H
              clear H
              go_wp2
              go_loopg [3, 5] kj2 (fun kq v3 v5 w' => ∃ (x3_3 : ByteArray) (x5_3 : Int), v3 = .string x3_3 ∧ v5 = .int .i64 x5_3 ∧ Aside0 (railplanref1_Join.l1 kq l0 x3_3 x4_1 x5_3 = some r) ∧ Aside0 (kq ≤ kj2) ∧ Drawn0 w w')
              case atStart => exact ⟨(x3_1), (0), (by first | rfl | (simp; done) | (simp [*]; done)), (by first | rfl | (simp; done) | (simp [*]; done)), H', ⟨Nat.le_refl _⟩, by repeat (first | exact Drawn0.refl _ | apply Drawn0.step)⟩
              case round =>
                clear H'
                try clear c2
                try clear c2b0
                try clear p2
                try clear q2
                try clear hx2
                try clear c4
                try clear c4b0
                try clear c4b1
                try clear c5
                try clear c5b0
                try clear c5b1
                try clear c6
                try clear hx268_0
                try clear hx269_0
                try clear p2
                try clear p268
                try clear p269
                try clear q2
                try clear q268
                try clear q269
                obtain ⟨x3_3, x5_3, rfl, rfl, HA, HK3, ⟨m3, rfl⟩⟩ := hrel
                cases gk with
                | zero => exact absurd HA.out (by simp [railplanref1_Join.l1])
                | succ k3 =>
                  have H := HA.out
                  clear HA
                  simp only [railplanref1_Join.l1] at H
                  by_cases c7 : 0 ≤ x4_1
                  · rw [if_pos c7] at H
                    have c7b0 : decide (0 ≤ x4_1) = true := decide_eq_true c7
                    clear c7
                    by_cases c8 : x4_1 < (l0.length : Int)
                    · rw [if_pos c8] at H
                      have c8b0 : decide (x4_1 < (l0.length : Int)) = true := decide_eq_true c8
                      clear c8
                      by_cases c9 : x5_3 < ((rd_L5 l0 x4_1).length : Int)
                      · rw [if_pos c9] at H
                        have c9b0 : decide (x5_3 < ((rd_L5 l0 x4_1).length : Int)) = true := decide_eq_true c9
                        clear c9
                        by_cases c10 : 0 ≤ x5_3
                        · rw [if_pos c10] at H
                          have c10b0 : decide (0 ≤ x5_3) = true := decide_eq_true c10
                          clear c10
                          by_cases c11 : ((rdOf ByteArray.empty (rd_L5 l0 x4_1) x5_3).size : Int) < 1
                          · rw [if_pos c11] at H
                            have c11b0 : decide (((rdOf ByteArray.empty (rd_L5 l0 x4_1) x5_3).size : Int) < 1) = true := decide_eq_true c11
                            have c11b1 : decide ((rdOf ByteArray.empty (rd_L5 l0 x4_1) x5_3).size < 1) = true := decide_eq_true (by omega)
                            clear c11
                            obtain rfl := Option.some.inj H
                            simp only [Option.some.injEq, Prod.mk.injEq] at H
                            obtain ⟨rfl⟩ := H
                            have p270 : 0 ≤ (x4_1 : Int) := of_decide_eq_true (by first | (with_reducible assumption) | assumption)
                            have q270 : x4_1 < (l0.length : Int) := of_decide_eq_true (by first | (with_reducible assumption) | assumption)
                            obtain ⟨ad270, A270_0, c270_0, e270, hx270_0, hl270_0, hi270_0⟩ := at_L5 HR0.out x4_1 p270 q270
                            cases e270
                            have HR270_0 := Aside0.mk hi270_0
                            have HC270_0 := Aside0.mk hl270_0
                            clear hi270_0 hl270_0
                            replace p270 := eq_true p270
                            replace q270 := eq_true q270
                            have p271 : 0 ≤ (x4_1 : Int) := of_decide_eq_true (by first | (with_reducible assumption) | assumption)
                            have q271 : x4_1 < (l0.length : Int) := of_decide_eq_true (by first | (with_reducible assumption) | assumption)
                            obtain ⟨ad271, A271_0, c271_0, e271, hx271_0, hl271_0, hi271_0⟩ := at_L5 HR0.out x4_1 p271 q271
                            obtain rfl : ad270 = ad271 := (by injection e271)
                            have HR271_0 := Aside0.mk hi271_0
                            have HC271_0 := Aside0.mk hl271_0
                            clear hi271_0 hl271_0
                            replace p271 := eq_true p271
                            replace q271 := eq_true q271
                            have ea_ := Option.some.inj (hx270_0.symm.trans hx271_0)
                            injection ea_ with ea_ en_ ec_
                            subst ea_
                            subst ec_
                            clear en_
                            have p272 : 0 ≤ (x5_3 : Int) := of_decide_eq_true (by first | (with_reducible assumption) | assumption)
                            have q272 : x5_3 < ((rd_L5 l0 x4_1).length : Int) := of_decide_eq_true (by first | (with_reducible assumption) | assumption)
                            obtain ⟨ad272, e272, hx272_0⟩ := Kd.at_string HR271_0.out x5_3 p272 q272
                            cases e272
                            replace p272 := eq_true p272
                            replace q272 := eq_true q272
                            go_wp2
                            go_ret
                            exact ⟨by first | rfl | (simp; done) | (simp [*]; done), by repeat (first | exact Drawn0.refl _ | apply Drawn0.step)⟩
                          · rw [if_neg c11] at H
                            have c11b0 : decide (((rdOf ByteArray.empty (rd_L5 l0 x4_1) x5_3).size : Int) < 1) = false := decide_eq_false c11
                            have c11b1 : decide ((rdOf ByteArray.empty (rd_L5 l0 x4_1) x5_3).size < 1) = false := decide_eq_false (by omega)
                            clear c11
                            have H' := Aside0.mk H
                            clear H
                            have p270 : 0 ≤ (x4_1 : Int) := of_decide_eq_true (by first | (with_reducible assumption) | assumption)
                            have q270 : x4_1 < (l0.length : Int) := of_decide_eq_true (by first | (with_reducible assumption) | assumption)
                            obtain ⟨ad270, A270_0, c270_0, e270, hx270_0, hl270_0, hi270_0⟩ := at_L5 HR0.out x4_1 p270 q270
                            cases e270
                            have HR270_0 := Aside0.mk hi270_0
                            have HC270_0 := Aside0.mk hl270_0
                            clear hi270_0 hl270_0
                            replace p270 := eq_true p270
                            replace q270 := eq_true q270
                            have p271 : 0 ≤ (x4_1 : Int) := of_decide_eq_true (by first | (with_reducible assumption) | assumption)
                            have q271 : x4_1 < (l0.length : Int) := of_decide_eq_true (by first | (with_reducible assumption) | assumption)
                            obtain ⟨ad271, A271_0, c271_0, e271, hx271_0, hl271_0, hi271_0⟩ := at_L5 HR0.out x4_1 p271 q271
                            obtain rfl : ad270 = ad271 := (by injection e271)
                            have HR271_0 := Aside0.mk hi271_0
                            have HC271_0 := Aside0.mk hl271_0
                            clear hi271_0 hl271_0
                            replace p271 := eq_true p271
                            replace q271 := eq_true q271
                            have ea_ := Option.some.inj (hx270_0.symm.trans hx271_0)
                            injection ea_ with ea_ en_ ec_
                            subst ea_
                            subst ec_
                            clear en_
                            have p272 : 0 ≤ (x5_3 : Int) := of_decide_eq_true (by first | (with_reducible assumption) | assumption)
                            have q272 : x5_3 < ((rd_L5 l0 x4_1).length : Int) := of_decide_eq_true (by first | (with_reducible assumption) | assumption)
                            obtain ⟨ad272, e272, hx272_0⟩ := Kd.at_string HR271_0.out x5_3 p272 q272
                            cases e272
                            replace p272 := eq_true p272
                            replace q272 := eq_true q272
                            go_wp2
                            go_loopg [6] k3 (fun kq v6 w' => ∃ (x6_4 : Int), v6 = .int .i64 x6_4 ∧ Aside0 (railplanref1_Join.l2 kq l0 x3_3 x4_1 x5_3 x6_4 = some r) ∧ Aside0 (kq ≤ k3) ∧ Drawn0 w w')
                            case atStart => exact ⟨(0), (by first | rfl | (simp; done) | (simp [*]; done)), H', ⟨Nat.le_refl _⟩, by repeat (first | exact Drawn0.refl _ | apply Drawn0.step)⟩
                            case round =>
                              clear H'
                              try clear c1
                              try clear c2
                              try clear c2b0
                              try clear p2
                              try clear q2
                              try clear hx2
                              try clear c4
                              try clear c4b0
                              try clear c4b1
                              try clear c5
                              try clear c5b0
                              try clear c5b1
                              try clear c6
                              try clear c7
                              try clear c7b0
                              try clear c8
                              try clear c8b0
                              try clear c9
                              try clear c9b0
                              try clear c10
                              try clear c10b0
                              try clear c11
                              try clear c11b0
                              try clear c11b1
                              try clear hx268_0
                              try clear hx269_0
                              try clear hx270_0
                              try clear hx271_0
                              try clear hx272_0
                              try clear p2
                              try clear p268
                              try clear p269
                              try clear p270
                              try clear p271
                              try clear p272
                              try clear q2
                              try clear q268
                              try clear q269
                              try clear q270
                              try clear q271
                              try clear q272
                              obtain ⟨x6_4, rfl, HA, HK4, ⟨m4, rfl⟩⟩ := hrel
                              cases gk with
                              | zero => exact absurd HA.out (by simp [railplanref1_Join.l2])
                              | succ k4 =>
                                have H := HA.out
                                clear HA
                                simp only [railplanref1_Join.l2] at H
                                by_cases c12 : 0 ≤ x4_1
                                · rw [if_pos c12] at H
                                  have c12b0 : decide (0 ≤ x4_1) = true := decide_eq_true c12
                                  clear c12
                                  by_cases c13 : x4_1 < (l0.length : Int)
                                  · rw [if_pos c13] at H
                                    have c13b0 : decide (x4_1 < (l0.length : Int)) = true := decide_eq_true c13
                                    clear c13
                                    by_cases c14 : 0 ≤ x5_3
                                    · rw [if_pos c14] at H
                                      have c14b0 : decide (0 ≤ x5_3) = true := decide_eq_true c14
                                      clear c14
                                      by_cases c15 : x5_3 < ((rd_L5 l0 x4_1).length : Int)
                                      · rw [if_pos c15] at H
                                        have c15b0 : decide (x5_3 < ((rd_L5 l0 x4_1).length : Int)) = true := decide_eq_true c15
                                        clear c15
                                        by_cases c16 : x6_4 < ((rdOf ByteArray.empty (rd_L5 l0 x4_1) x5_3).size : Int)
                                        · rw [if_pos c16] at H
                                          have c16b0 : decide (x6_4 < ((rdOf ByteArray.empty (rd_L5 l0 x4_1) x5_3).size : Int)) = true := decide_eq_true c16
                                          clear c16
                                          by_cases c17 : 0 ≤ x6_4
                                          · rw [if_pos c17] at H
                                            have c17b0 : decide (0 ≤ x6_4) = true := decide_eq_true c17
                                            clear c17
                                            replace H := Option.bind_eq_some_iff.mp H
                                            obtain ⟨t277, A190, H⟩ := H
                                            replace H : (if t277 = true then (railplanref1_Join.l2 k4 l0 x3_3 x4_1 x5_3 (wrap64 (x6_4 + 1))) else (some (⟨#[]⟩ : ByteArray))) = some r := H
                                            have A19 := Aside0.mk A190
                                            clear A190
                                            by_cases c20 : t277 = true
                                            · subst c20
                                              have H1 : (railplanref1_Join.l2 k4 l0 x3_3 x4_1 x5_3 (wrap64 (x6_4 + 1))) = some r := by rw [if_pos rfl] at H; exact H
                                              clear H
                                              have H := H1
                                              clear H1
                                              have H' := Aside0.mk H
                                              clear H
                                              have p273 : 0 ≤ (x4_1 : Int) := of_decide_eq_true (by first | (with_reducible assumption) | assumption)
                                              have q273 : x4_1 < (l0.length : Int) := of_decide_eq_true (by first | (with_reducible assumption) | assumption)
                                              obtain ⟨ad273, A273_0, c273_0, e273, hx273_0, hl273_0, hi273_0⟩ := at_L5 HR0.out x4_1 p273 q273
                                              obtain rfl : ad270 = ad273 := (by injection e273)
                                              have HR273_0 := Aside0.mk hi273_0
                                              have HC273_0 := Aside0.mk hl273_0
                                              clear hi273_0 hl273_0
                                              replace p273 := eq_true p273
                                              replace q273 := eq_true q273
                                              have p274 : 0 ≤ (x5_3 : Int) := of_decide_eq_true (by first | (with_reducible assumption) | assumption)
                                              have q274 : x5_3 < ((rd_L5 l0 x4_1).length : Int) := of_decide_eq_true (by first | (with_reducible assumption) | assumption)
                                              obtain ⟨ad274, e274, hx274_0⟩ := Kd.at_string HR273_0.out x5_3 p274 q274
                                              cases e274
                                              replace p274 := eq_true p274
                                              replace q274 := eq_true q274
                                              have p275 : 0 ≤ (x4_1 : Int) := of_decide_eq_true (by first | (with_reducible assumption) | assumption)
                                              have q275 : x4_1 < (l0.length : Int) := of_decide_eq_true (by first | (with_reducible assumption) | assumption)
                                              obtain ⟨ad275, A275_0, c275_0, e275, hx275_0, hl275_0, hi275_0⟩ := at_L5 HR0.out x4_1 p275 q275
                                              obtain rfl : ad270 = ad275 := (by injection e275)
                                              have HR275_0 := Aside0.mk hi275_0
                                              have HC275_0 := Aside0.mk hl275_0
                                              clear hi275_0 hl275_0
                                              replace p275 := eq_true p275
                                              replace q275 := eq_true q275
                                              have ea_ := Option.some.inj (hx273_0.symm.trans hx275_0)
                                              injection ea_ with ea_ en_ ec_
                                              subst ea_
                                              subst ec_
                                              clear en_
                                              have p276 : 0 ≤ (x5_3 : Int) := of_decide_eq_true (by first | (with_reducible assumption) | assumption)
                                              have q276 : x5_3 < ((rd_L5 l0 x4_1).length : Int) := of_decide_eq_true (by first | (with_reducible assumption) | assumption)
                                              obtain ⟨ad276, e276, hx276_0⟩ := Kd.at_string HR275_0.out x5_3 p276 q276
                                              cases e276
                                              replace p276 := eq_true p276
                                              replace q276 := eq_true q276
                                              have p18 : 0 ≤ (x6_4 : Int) := of_decide_eq_true (by first | (with_reducible assumption) | assumption)
                                              have q18 : x6_4 < ((rdOf ByteArray.empty (rd_L5 l0 x4_1) x5_3).size : Int) := of_decide_eq_true (by first | (with_reducible assumption) | assumption)
                                              have hx18 := bt_at (rdOf ByteArray.empty (rd_L5 l0 x4_1) x5_3) x6_4
                                              replace p18 := eq_true p18
                                              replace q18 := eq_true q18
                                              go_wp2_with (first | ((with_reducible refine gate_callee (f := 43) rfl ?_); refine goesL_ (some 66) rfl rfl Tryd.func43 (by kernel_rfl) rfl #[.int .u8 (bt (rdOf ByteArray.empty (rd_L5 l0 x4_1) x5_3) x6_4)] rfl (by (try simp only [List.map_toArray, List.map_cons, List.map_nil]); first | done | rfl | (simp only [List.length_drop, List.length_take]; rfl)) ?_; (with_reducible refine (railplanref1_plain.calls (bt (rdOf ByteArray.empty (rd_L5 l0 x4_1) x5_3) x6_4) true _ A19.out).mono ?_); rintro e w' ⟨rfl, ⟨nd, rfl⟩⟩; refine ⟨_, rfl, ?_⟩))
                                              go_roundg k4
                                              case measure => have := HK1.out; have := HJ2.out; have := HK3.out; have := HK4.out; omega
                                              case rel => exact ⟨(wrap64 (x6_4 + 1)), (by first | rfl | (simp; done) | (simp [*]; done)), H', ⟨by have := HK1.out; have := HJ2.out; have := HK3.out; have := HK4.out; omega⟩, by repeat (first | exact Drawn0.refl _ | apply Drawn0.step)⟩
                                            · replace c20 := Bool.eq_false_iff.mpr c20
                                              subst c20
                                              have H1 : (some (⟨#[]⟩ : ByteArray)) = some r := by rw [if_neg (show ¬ (false = true) by decide)] at H; exact H
                                              clear H
                                              have H := H1
                                              clear H1
                                              obtain rfl := Option.some.inj H
                                              simp only [Option.some.injEq, Prod.mk.injEq] at H
                                              obtain ⟨rfl⟩ := H
                                              have p273 : 0 ≤ (x4_1 : Int) := of_decide_eq_true (by first | (with_reducible assumption) | assumption)
                                              have q273 : x4_1 < (l0.length : Int) := of_decide_eq_true (by first | (with_reducible assumption) | assumption)
                                              obtain ⟨ad273, A273_0, c273_0, e273, hx273_0, hl273_0, hi273_0⟩ := at_L5 HR0.out x4_1 p273 q273
                                              obtain rfl : ad270 = ad273 := (by injection e273)
                                              have HR273_0 := Aside0.mk hi273_0
                                              have HC273_0 := Aside0.mk hl273_0
                                              clear hi273_0 hl273_0
                                              replace p273 := eq_true p273
                                              replace q273 := eq_true q273
                                              have p274 : 0 ≤ (x5_3 : Int) := of_decide_eq_true (by first | (with_reducible assumption) | assumption)
                                              have q274 : x5_3 < ((rd_L5 l0 x4_1).length : Int) := of_decide_eq_true (by first | (with_reducible assumption) | assumption)
                                              obtain ⟨ad274, e274, hx274_0⟩ := Kd.at_string HR273_0.out x5_3 p274 q274
                                              cases e274
                                              replace p274 := eq_true p274
                                              replace q274 := eq_true q274
                                              have p275 : 0 ≤ (x4_1 : Int) := of_decide_eq_true (by first | (with_reducible assumption) | assumption)
                                              have q275 : x4_1 < (l0.length : Int) := of_decide_eq_true (by first | (with_reducible assumption) | assumption)
                                              obtain ⟨ad275, A275_0, c275_0, e275, hx275_0, hl275_0, hi275_0⟩ := at_L5 HR0.out x4_1 p275 q275
                                              obtain rfl : ad270 = ad275 := (by injection e275)
                                              have HR275_0 := Aside0.mk hi275_0
                                              have HC275_0 := Aside0.mk hl275_0
                                              clear hi275_0 hl275_0
                                              replace p275 := eq_true p275
                                              replace q275 := eq_true q275
                                              have ea_ := Option.some.inj (hx273_0.symm.trans hx275_0)
                                              injection ea_ with ea_ en_ ec_
                                              subst ea_
                                              subst ec_
                                              clear en_
                                              have p276 : 0 ≤ (x5_3 : Int) := of_decide_eq_true (by first | (with_reducible assumption) | assumption)
                                              have q276 : x5_3 < ((rd_L5 l0 x4_1).length : Int) := of_decide_eq_true (by first | (with_reducible assumption) | assumption)
                                              obtain ⟨ad276, e276, hx276_0⟩ := Kd.at_string HR275_0.out x5_3 p276 q276
                                              cases e276
                                              replace p276 := eq_true p276
                                              replace q276 := eq_true q276
                                              have p18 : 0 ≤ (x6_4 : Int) := of_decide_eq_true (by first | (with_reducible assumption) | assumption)
                                              have q18 : x6_4 < ((rdOf ByteArray.empty (rd_L5 l0 x4_1) x5_3).size : Int) := of_decide_eq_true (by first | (with_reducible assumption) | assumption)
                                              have hx18 := bt_at (rdOf ByteArray.empty (rd_L5 l0 x4_1) x5_3) x6_4
                                              replace p18 := eq_true p18
                                              replace q18 := eq_true q18
                                              go_wp2_with (first | ((with_reducible refine gate_callee (f := 43) rfl ?_); refine goesL_ (some 66) rfl rfl Tryd.func43 (by kernel_rfl) rfl #[.int .u8 (bt (rdOf ByteArray.empty (rd_L5 l0 x4_1) x5_3) x6_4)] rfl (by (try simp only [List.map_toArray, List.map_cons, List.map_nil]); first | done | rfl | (simp only [List.length_drop, List.length_take]; rfl)) ?_; (with_reducible refine (railplanref1_plain.calls (bt (rdOf ByteArray.empty (rd_L5 l0 x4_1) x5_3) x6_4) false _ A19.out).mono ?_); rintro e w' ⟨rfl, ⟨nd, rfl⟩⟩; refine ⟨_, rfl, ?_⟩))
                                              go_ret
                                              exact ⟨by first | rfl | (simp; done) | (simp [*]; done), by repeat (first | exact Drawn0.refl _ | apply Drawn0.step)⟩
                                          · rw [if_neg c17] at H
                                            exact absurd H (by simp)
                                        · rw [if_neg c16] at H
                                          have c16b0 : decide (x6_4 < ((rdOf ByteArray.empty (rd_L5 l0 x4_1) x5_3).size : Int)) = false := decide_eq_false c16
                                          clear c16
                                          by_cases c21 : x5_3 > 0
                                          · rw [if_pos c21] at H
                                            have c21b0 : decide (0 < x5_3) = true := decide_eq_true c21
                                            clear c21
                                            by_cases c22 : x3_3.size + 1 ≤ 9223372036854775807
                                            · rw [if_pos c22] at H
                                              have c22b0 := eq_true c22
                                              have c22b1 : decide (x3_3.size + 1 ≤ 9223372036854775807) = true := decide_eq_true c22
                                              try have c22b2 : (9223372036854775807 < x3_3.size + 1) = False := eq_false (Nat.not_lt.2 c22)
                                              by_cases c23 : x3_3.size + 1 + (rdOf ByteArray.empty (rd_L5 l0 x4_1) x5_3).size ≤ 9223372036854775807
                                              · rw [if_pos c23] at H
                                                have c23b0 := eq_true c23
                                                have c23b1 : decide (x3_3.size + 1 + (rdOf ByteArray.empty (rd_L5 l0 x4_1) x5_3).size ≤ 9223372036854775807) = true := decide_eq_true c23
                                                try have c23b2 : (9223372036854775807 < x3_3.size + 1 + (rdOf ByteArray.empty (rd_L5 l0 x4_1) x5_3).size) = False := eq_false (Nat.not_lt.2 c23)
                                                have H' := Aside0.mk H
                                                clear H
                                                have p273 : 0 ≤ (x4_1 : Int) := of_decide_eq_true (by first | (with_reducible assumption) | assumption)
                                                have q273 : x4_1 < (l0.length : Int) := of_decide_eq_true (by first | (with_reducible assumption) | assumption)
                                                obtain ⟨ad273, A273_0, c273_0, e273, hx273_0, hl273_0, hi273_0⟩ := at_L5 HR0.out x4_1 p273 q273
                                                obtain rfl : ad270 = ad273 := (by injection e273)
                                                have HR273_0 := Aside0.mk hi273_0
                                                have HC273_0 := Aside0.mk hl273_0
                                                clear hi273_0 hl273_0
                                                replace p273 := eq_true p273
                                                replace q273 := eq_true q273
                                                have p274 : 0 ≤ (x5_3 : Int) := of_decide_eq_true (by first | (with_reducible assumption) | assumption)
                                                have q274 : x5_3 < ((rd_L5 l0 x4_1).length : Int) := of_decide_eq_true (by first | (with_reducible assumption) | assumption)
                                                obtain ⟨ad274, e274, hx274_0⟩ := Kd.at_string HR273_0.out x5_3 p274 q274
                                                cases e274
                                                replace p274 := eq_true p274
                                                replace q274 := eq_true q274
                                                have p278 : 0 ≤ (x4_1 : Int) := of_decide_eq_true (by first | (with_reducible assumption) | assumption)
                                                have q278 : x4_1 < (l0.length : Int) := of_decide_eq_true (by first | (with_reducible assumption) | assumption)
                                                obtain ⟨ad278, A278_0, c278_0, e278, hx278_0, hl278_0, hi278_0⟩ := at_L5 HR0.out x4_1 p278 q278
                                                obtain rfl : ad270 = ad278 := (by injection e278)
                                                have HR278_0 := Aside0.mk hi278_0
                                                have HC278_0 := Aside0.mk hl278_0
                                                clear hi278_0 hl278_0
                                                replace p278 := eq_true p278
                                                replace q278 := eq_true q278
                                                have ea_ := Option.some.inj (hx273_0.symm.trans hx278_0)
                                                injection ea_ with ea_ en_ ec_
                                                subst ea_
                                                subst ec_
                                                clear en_
                                                have p279 : 0 ≤ (x5_3 : Int) := of_decide_eq_true (by first | (with_reducible assumption) | assumption)
                                                have q279 : x5_3 < ((rd_L5 l0 x4_1).length : Int) := of_decide_eq_true (by first | (with_reducible assumption) | assumption)
                                                obtain ⟨ad279, e279, hx279_0⟩ := Kd.at_string HR278_0.out x5_3 p279 q279
                                                cases e279
                                                replace p279 := eq_true p279
                                                replace q279 := eq_true q279
                                                go_wp2
                                                go_roundg k4
                                                case measure => have := HK1.out; have := HJ2.out; have := HK3.out; have := HK4.out; omega
                                                case rel => exact ⟨((x3_3 ++ (⟨#[32]⟩ : ByteArray)) ++ (rdOf ByteArray.empty (rd_L5 l0 x4_1) x5_3)), (wrap64 (x5_3 + 1)), (by first | rfl | (simp; done) | (simp [*]; done)), (by first | rfl | (simp; done) | (simp [*]; done)), H', ⟨by have := HK1.out; have := HJ2.out; have := HK3.out; have := HK4.out; omega⟩, by repeat (first | exact Drawn0.refl _ | apply Drawn0.step)⟩
                                              · rw [if_neg c23] at H
                                                exact absurd H (by simp)
                                            · rw [if_neg c22] at H
                                              exact absurd H (by simp)
                                          · rw [if_neg c21] at H
                                            have c21b0 : decide (0 < x5_3) = false := decide_eq_false c21
                                            clear c21
                                            by_cases c24 : x3_3.size + (rdOf ByteArray.empty (rd_L5 l0 x4_1) x5_3).size ≤ 9223372036854775807
                                            · rw [if_pos c24] at H
                                              have c24b0 := eq_true c24
                                              have c24b1 : decide (x3_3.size + (rdOf ByteArray.empty (rd_L5 l0 x4_1) x5_3).size ≤ 9223372036854775807) = true := decide_eq_true c24
                                              try have c24b2 : (9223372036854775807 < x3_3.size + (rdOf ByteArray.empty (rd_L5 l0 x4_1) x5_3).size) = False := eq_false (Nat.not_lt.2 c24)
                                              have H' := Aside0.mk H
                                              clear H
                                              have p273 : 0 ≤ (x4_1 : Int) := of_decide_eq_true (by first | (with_reducible assumption) | assumption)
                                              have q273 : x4_1 < (l0.length : Int) := of_decide_eq_true (by first | (with_reducible assumption) | assumption)
                                              obtain ⟨ad273, A273_0, c273_0, e273, hx273_0, hl273_0, hi273_0⟩ := at_L5 HR0.out x4_1 p273 q273
                                              obtain rfl : ad270 = ad273 := (by injection e273)
                                              have HR273_0 := Aside0.mk hi273_0
                                              have HC273_0 := Aside0.mk hl273_0
                                              clear hi273_0 hl273_0
                                              replace p273 := eq_true p273
                                              replace q273 := eq_true q273
                                              have p274 : 0 ≤ (x5_3 : Int) := of_decide_eq_true (by first | (with_reducible assumption) | assumption)
                                              have q274 : x5_3 < ((rd_L5 l0 x4_1).length : Int) := of_decide_eq_true (by first | (with_reducible assumption) | assumption)
                                              obtain ⟨ad274, e274, hx274_0⟩ := Kd.at_string HR273_0.out x5_3 p274 q274
                                              cases e274
                                              replace p274 := eq_true p274
                                              replace q274 := eq_true q274
                                              have p280 : 0 ≤ (x4_1 : Int) := of_decide_eq_true (by first | (with_reducible assumption) | assumption)
                                              have q280 : x4_1 < (l0.length : Int) := of_decide_eq_true (by first | (with_reducible assumption) | assumption)
                                              obtain ⟨ad280, A280_0, c280_0, e280, hx280_0, hl280_0, hi280_0⟩ := at_L5 HR0.out x4_1 p280 q280
                                              obtain rfl : ad270 = ad280 := (by injection e280)
                                              have HR280_0 := Aside0.mk hi280_0
                                              have HC280_0 := Aside0.mk hl280_0
                                              clear hi280_0 hl280_0
                                              replace p280 := eq_true p280
                                              replace q280 := eq_true q280
                                              have ea_ := Option.some.inj (hx273_0.symm.trans hx280_0)
                                              injection ea_ with ea_ en_ ec_
                                              subst ea_
                                              subst ec_
                                              clear en_
                                              have p281 : 0 ≤ (x5_3 : Int) := of_decide_eq_true (by first | (with_reducible assumption) | assumption)
                                              have q281 : x5_3 < ((rd_L5 l0 x4_1).length : Int) := of_decide_eq_true (by first | (with_reducible assumption) | assumption)
                                              obtain ⟨ad281, e281, hx281_0⟩ := Kd.at_string HR280_0.out x5_3 p281 q281
                                              cases e281
                                              replace p281 := eq_true p281
                                              replace q281 := eq_true q281
                                              go_wp2
                                              go_roundg k4
                                              case measure => have := HK1.out; have := HJ2.out; have := HK3.out; have := HK4.out; omega
                                              case rel => exact ⟨(x3_3 ++ (rdOf ByteArray.empty (rd_L5 l0 x4_1) x5_3)), (wrap64 (x5_3 + 1)), (by first | rfl | (simp; done) | (simp [*]; done)), (by first | rfl | (simp; done) | (simp [*]; done)), H', ⟨by have := HK1.out; have := HJ2.out; have := HK3.out; have := HK4.out; omega⟩, by repeat (first | exact Drawn0.refl _ | apply Drawn0.step)⟩
                                            · rw [if_neg c24] at H
                                              exact absurd H (by simp)
                                      · rw [if_neg c15] at H
                                        exact absurd H (by simp)
                                    · rw [if_neg c14] at H
                                      exact absurd H (by simp)
                                  · rw [if_neg c13] at H
                                    exact absurd H (by simp)
                                · rw [if_neg c12] at H
                                  exact absurd H (by simp)
                        · rw [if_neg c10] at H
                          exact absurd H (by simp)
                      · rw [if_neg c9] at H
                        have c9b0 : decide (x5_3 < ((rd_L5 l0 x4_1).length : Int)) = false := decide_eq_false c9
                        clear c9
                        by_cases c25 : x3_3.size + 1 ≤ 9223372036854775807
                        · rw [if_pos c25] at H
                          have c25b0 := eq_true c25
                          have c25b1 : decide (x3_3.size + 1 ≤ 9223372036854775807) = true := decide_eq_true c25
                          try have c25b2 : (9223372036854775807 < x3_3.size + 1) = False := eq_false (Nat.not_lt.2 c25)
                          have H' := Aside0.mk H
                          clear H
                          have p270 : 0 ≤ (x4_1 : Int) := of_decide_eq_true (by first | (with_reducible assumption) | assumption)
                          have q270 : x4_1 < (l0.length : Int) := of_decide_eq_true (by first | (with_reducible assumption) | assumption)
                          obtain ⟨ad270, A270_0, c270_0, e270, hx270_0, hl270_0, hi270_0⟩ := at_L5 HR0.out x4_1 p270 q270
                          cases e270
                          have HR270_0 := Aside0.mk hi270_0
                          have HC270_0 := Aside0.mk hl270_0
                          clear hi270_0 hl270_0
                          replace p270 := eq_true p270
                          replace q270 := eq_true q270
                          go_wp2
                          go_roundg k3
                          case measure => have := HK1.out; have := HJ2.out; have := HK3.out; omega
                          case rel => exact ⟨(x3_3 ++ (⟨#[10]⟩ : ByteArray)), (wrap64 (x4_1 + 1)), (by first | rfl | (simp; done) | (simp [*]; done)), (by first | rfl | (simp; done) | (simp [*]; done)), H', ⟨by have := HK1.out; have := HJ2.out; have := HK3.out; omega⟩, by repeat (first | exact Drawn0.refl _ | apply Drawn0.step)⟩
                        · rw [if_neg c25] at H
                          exact absurd H (by simp)
                    · rw [if_neg c8] at H
                      exact absurd H (by simp)
                  · rw [if_neg c7] at H
                    exact absurd H (by simp)
      · rw [if_neg c2] at H
        have c2b0 : decide (x4_1 < (l0.length : Int)) = false := decide_eq_false c2
        clear c2
        obtain rfl := Option.some.inj H
        simp only [Option.some.injEq, Prod.mk.injEq] at H
        obtain ⟨rfl⟩ := H
        go_wp2
        go_ret
        exact ⟨by first | rfl | (simp; done) | (simp [*]; done), by repeat (first | exact Drawn0.refl _ | apply Drawn0.step)⟩

/-! ### railplanlaw3_WordsJoins: function 11 -/
mutual
def railplanlaw3_WordsJoins.j1 : Nat → List (List ByteArray) → List (List ByteArray) → Option (Bool)
  | 0, _, _ => none
  | k + 1, x0, x5 => (railplanlaw3_awake.f k).bind fun t293 => (if t293 = true then ((words_Join.f k x0).bind fun t294 => ((railplanref1_Join.f k x0).bind fun t295 => (if t294.toList = t295.toList then ((words_Join.f k x5).bind fun t296 => ((railplanref1_Join.f k x5).bind fun t297 => (some (t296.toList == t297.toList)))) else (some false)))) else (some false))
def railplanlaw3_WordsJoins.l0 : Nat → List (List ByteArray) → List Int → List (List ByteArray) → Int → Option (Bool)
  | 0, _, _, _, _ => none
  | k + 1, x0, x1, x5, x6 => if x6 < (x1.length : Int) then (if x6 < 20 then (if 0 ≤ x6 then (if x6 ≤ (mn (wrap64 (x6 + 1)) (x1.length : Int)) then (if (mn (wrap64 (x6 + 1)) (x1.length : Int)) ≤ (x1.length : Int) then ((railplanlaw3_pieces.f k ((x1.take ((mn (wrap64 (x6 + 1)) (x1.length : Int)) : Int).toNat).drop (x6 : Int).toNat)).bind fun t286 => (if 1 + t286.size ≤ 9223372036854775807 then (if x5.length < 5864062014805 then (railplanlaw3_WordsJoins.l0 k x0 x1 (x5 ++ [(([(⟨#[97]⟩ : ByteArray), (⟨#[98]⟩ : ByteArray) ++ t286] : List ByteArray))]) (wrap64 (x6 + 1))) else (none)) else (none))) else (none)) else (none)) else (none)) else (railplanlaw3_WordsJoins.j1 k x0 x5)) else (railplanlaw3_WordsJoins.j1 k x0 x5)
end
def railplanlaw3_WordsJoins.f (k : Nat) (l0 : List (List ByteArray)) (l1 : List Int) : Option (Bool) := railplanlaw3_WordsJoins.l0 k l0 l1 (([] : List (List ByteArray))) 0
theorem railplanlaw3_WordsJoins.mono_l : ∀ k, (∀ y0 y1, LeO (railplanlaw3_WordsJoins.j1 k y0 y1) (railplanlaw3_WordsJoins.j1 (k + 1) y0 y1)) ∧ (∀ y0 y1 y2 y3, LeO (railplanlaw3_WordsJoins.l0 k y0 y1 y2 y3) (railplanlaw3_WordsJoins.l0 (k + 1) y0 y1 y2 y3))
  | 0 => ⟨fun _ _ r h => by simp [railplanlaw3_WordsJoins.j1] at h, fun _ _ _ _ r h => by simp [railplanlaw3_WordsJoins.l0] at h⟩
  | k + 1 => by
    obtain ⟨ih0, ih1⟩ := railplanlaw3_WordsJoins.mono_l k
    refine ⟨?_, ?_⟩
    · intro y0 y1
      unfold railplanlaw3_WordsJoins.j1
      repeat' first
      | (with_reducible exact ih0 _ _)
      | (with_reducible exact ih1 _ _ _ _)
      | (with_reducible exact railplanlaw3_awake.mono _)
      | (with_reducible exact railplanlaw3_pieces.mono _ _)
      | (with_reducible exact railplanref1_Join.mono _ _)
      | (with_reducible exact words_Join.mono _ _)
      | (with_reducible exact LeO.refl _)
      | (with_reducible exact LeO.none _)
      | (with_reducible refine LeO.ite ?_ ?_)
      | (with_reducible refine LeO.bind ?_ (fun _ => ?_))
      | exact ih0 _ _
      | exact ih1 _ _ _ _
      | exact railplanlaw3_awake.mono _
      | exact railplanlaw3_pieces.mono _ _
      | exact railplanref1_Join.mono _ _
      | exact words_Join.mono _ _
      | exact LeO.none _
      | refine LeO.ite ?_ ?_
      | refine LeO.bind ?_ (fun _ => ?_)
    · intro y0 y1 y2 y3
      unfold railplanlaw3_WordsJoins.l0
      repeat' first
      | (with_reducible exact ih0 _ _)
      | (with_reducible exact ih1 _ _ _ _)
      | (with_reducible exact railplanlaw3_awake.mono _)
      | (with_reducible exact railplanlaw3_pieces.mono _ _)
      | (with_reducible exact railplanref1_Join.mono _ _)
      | (with_reducible exact words_Join.mono _ _)
      | (with_reducible exact LeO.refl _)
      | (with_reducible exact LeO.none _)
      | (with_reducible refine LeO.ite ?_ ?_)
      | (with_reducible refine LeO.bind ?_ (fun _ => ?_))
      | exact ih0 _ _
      | exact ih1 _ _ _ _
      | exact railplanlaw3_awake.mono _
      | exact railplanlaw3_pieces.mono _ _
      | exact railplanref1_Join.mono _ _
      | exact words_Join.mono _ _
      | exact LeO.none _
      | refine LeO.ite ?_ ?_
      | refine LeO.bind ?_ (fun _ => ?_)
theorem railplanlaw3_WordsJoins.mono : ∀ a0 a1 k, LeO (railplanlaw3_WordsJoins.f k a0 a1) (railplanlaw3_WordsJoins.f (k + 1) a0 a1) := by
  intro a0 a1 k
  obtain ⟨ih0, ih1⟩ := railplanlaw3_WordsJoins.mono_l k
  unfold railplanlaw3_WordsJoins.f
  repeat' first
      | (with_reducible exact ih0 _ _)
      | (with_reducible exact ih1 _ _ _ _)
      | (with_reducible exact railplanlaw3_awake.mono _)
      | (with_reducible exact railplanlaw3_pieces.mono _ _)
      | (with_reducible exact railplanref1_Join.mono _ _)
      | (with_reducible exact words_Join.mono _ _)
      | (with_reducible exact LeO.refl _)
      | (with_reducible exact LeO.none _)
      | (with_reducible refine LeO.ite ?_ ?_)
      | (with_reducible refine LeO.bind ?_ (fun _ => ?_))
      | exact ih0 _ _
      | exact ih1 _ _ _ _
      | exact railplanlaw3_awake.mono _
      | exact railplanlaw3_pieces.mono _ _
      | exact railplanref1_Join.mono _ _
      | exact words_Join.mono _ _
      | exact LeO.none _
      | refine LeO.ite ?_ ?_
      | refine LeO.bind ?_ (fun _ => ?_)
set_option maxHeartbeats 8000000 in
set_option maxRecDepth 100000 in
theorem railplanlaw3_WordsJoins.calls (k : Nat) (A0 : Option Addr) (c0 : Nat) (l0 : List (List ByteArray)) (A1 : Option Addr) (c1 : Nat) (l1 : List Int) (r : Bool) (w : World) (hr0 : Kd.C (Kd.slice 9 Kd.string) w A0 l0.length l0) (hc0 : l0.length ≤ c0) (hr1 : Kd.C (Kd.int .u8) w A1 l1.length l1) (hc1 : l1.length ≤ c1) (hL_ : Aside0 (Laid w)) (hr_ : Aside0 (r = true)) (h : railplanlaw3_WordsJoins.f k l0 l1 = some r) :
    Calls Tryd.prog 11 #[.slice A0 l0.length c0, .slice A1 l1.length c1] w fun e w' => e = .returned (.bool r) ∧ Below w.heap.size w w' := by
  have HR0 := Aside0.mk hr0
  have HC0 := Aside0.mk hc0
  clear hr0 hc0
  have HR1 := Aside0.mk hr1
  have HC1 := Aside0.mk hc1
  clear hr1 hc1
  have HB := Aside0.mk (Below.refl w.heap.size w)
  have H : (railplanlaw3_WordsJoins.l0 k l0 l1 (([] : List (List ByteArray))) 0) = some r := h
  clear h
  obtain ⟨y282, hy282⟩ : ∃ y_ : List (List ByteArray), y_ = (([] : List (List ByteArray))) := ⟨_, rfl⟩
  replace H : (railplanlaw3_WordsJoins.l0 k l0 l1 y282 0) = some r := by first | (rw [hy282]; with_reducible exact H) | (have H2_ := (Option.bind_some _ _).symm.trans H; rw [hy282]; with_reducible exact H2_) | (have H2_ := (Option.bind_some _ _).symm.trans H; with_reducible exact H2_) | with_reducible exact H | (rw [hy282]; exact H) | exact H
  have Ny282 := Aside0.mk hy282
  clear hy282
  have HC3 := Aside0.mk H
  clear H
  go_enter Tryd.func11, Tryd.ntmps11
  go_upto_block 0 with (first | ((with_reducible refine gate_dst (N := 7) rfl ?_); refine Kd.S_lit (Kd.slice 9 Kd.string) _ 43 ?hg (N := 7) ?hd (xs := ([] : List (List ByteArray))) (inner := []) (ok := fun _ => True) (okp := fun _ => True) ?hr ?hp (fun _ hk => hk) trivial (Below.refl _ _) (Nat.le_refl _) (by simp) ?_; (case hd => rfl); (case hg => rfl); (case hr => first | (go_simp; done) | (go_simp; rfl)); (case hp => exact (Reps.none _ _)); intro v283 w4 ho5 hb hg_ hnew_; clear hg_ hnew_; (first | rw [← Ny282.out] at ho5 | (simp only [Int.reduceToNat] at ho5; rw [← Ny282.out] at ho5)); have n0_ := Aside0.mk (Kd.S_lower ho5 (below_size (by repeat (first | (with_reducible first | exact HB.out | apply below_alloc | apply pw_below_drewN | apply below_drew1) | exact HB.out)))); have n1_ := Aside0.mk (below_step (by repeat (first | (with_reducible first | exact HB.out | apply below_alloc | apply pw_below_drewN | apply below_drew1) | exact HB.out)) hb); clear HB; have HO284 := n0_; have HB := n1_; clear n0_ n1_; clear hb ho5))
  (try simp only [Act.put, List.setIfInBounds_toArray, List.set_cons_zero, List.set_cons_succ])
  go_cut [5] (fun v5 wc => ∃ (kq : Nat) (x5_2 : List (List ByteArray)), Aside0 (railplanlaw3_WordsJoins.j1 kq l0 x5_2 = some r) ∧ Aside0 (kq ≤ k) ∧ Aside0 (Kd.S (Kd.slice 9 Kd.string) 43 wc w.heap.size (fun _ => True) v5 x5_2) ∧ Aside0 (Below w.heap.size w wc))
  case first =>
    have H := HC3.out
    clear HC3
    have H' := Aside0.mk H
    clear H
    go_wp2
    go_loopg [5, 6] k (fun kq v5 v6 w' => ∃ (x5_1 : List (List ByteArray)) (x6_1 : Int), v6 = .int .i64 x6_1 ∧ Aside0 (railplanlaw3_WordsJoins.l0 kq l0 l1 x5_1 x6_1 = some r) ∧ Aside0 (kq ≤ k) ∧ Aside0 (Kd.S (Kd.slice 9 Kd.string) 43 w' w.heap.size (fun _ => True) v5 x5_1) ∧ Aside0 (Below w.heap.size w w'))
    case atStart => exact ⟨(y282), (0), (by first | rfl | (simp; done) | (simp [*]; done)), H', ⟨Nat.le_refl _⟩, ⟨by (with_reducible repeat (first | apply Kd.S_alloc | apply Kd.S_drewN | apply Kd.S_drew)); exact HO284.out⟩, ⟨by repeat (first | (with_reducible first | exact HB.out | apply below_alloc | apply pw_below_drewN | apply below_drew1) | exact HB.out)⟩⟩
    case round =>
      clear H'
      try clear c1
      try clear p2
      obtain ⟨x5_1, x6_1, rfl, HA, HK1, HO_5, HB⟩ := hrel
      cases gk with
      | zero => exact absurd HA.out (by simp [railplanlaw3_WordsJoins.l0])
      | succ k1 =>
        have H := HA.out
        clear HA
        simp only [railplanlaw3_WordsJoins.l0] at H
        by_cases c6 : x6_1 < (l1.length : Int)
        · rw [if_pos c6] at H
          have c6b0 : decide (x6_1 < (l1.length : Int)) = true := decide_eq_true c6
          clear c6
          (first | rw [c6b0] | (simp only [i64_w, i32_w]; rw [c6b0]) | rw [c6b1] | skip)
          by_cases c7 : x6_1 < 20
          · rw [if_pos c7] at H
            have c7b0 : decide (x6_1 < 20) = true := decide_eq_true c7
            clear c7
            obtain ⟨ji8, hji8⟩ : ∃ j_ : Int, (mn (wrap64 (x6_1 + 1)) (l1.length : Int)) = j_ := ⟨_, rfl⟩
            replace H : (if 0 ≤ x6_1 then (if x6_1 ≤ (ji8) then (if (ji8) ≤ (l1.length : Int) then ((railplanlaw3_pieces.f k1 ((l1.take ((ji8) : Int).toNat).drop (x6_1 : Int).toNat)).bind fun t286 => (if 1 + t286.size ≤ 9223372036854775807 then (if x5_1.length < 5864062014805 then (railplanlaw3_WordsJoins.l0 k1 l0 l1 (x5_1 ++ [(([(⟨#[97]⟩ : ByteArray), (⟨#[98]⟩ : ByteArray) ++ t286] : List ByteArray))]) (wrap64 (x6_1 + 1))) else (none)) else (none))) else (none)) else (none)) else (none)) = some r := by first | (rw [hji8] at H; exact H) | (simp only [hji8] at H ⊢; exact H)
            have hji8_ : (if (l1.length : Int) < (wrap64 (x6_1 + 1)) then (l1.length : Int) else (wrap64 (x6_1 + 1))) = ji8 := hji8
            by_cases c9 : 0 ≤ x6_1
            · rw [if_pos c9] at H
              have c9b0 := eq_true c9
              have c9b1 : decide (0 ≤ x6_1) = true := decide_eq_true c9
              clear c9
              by_cases c10 : x6_1 ≤ (ji8)
              · rw [if_pos c10] at H
                have c10b0 := eq_true c10
                have c10b1 : decide (x6_1 ≤ (ji8)) = true := decide_eq_true c10
                clear c10
                by_cases c11 : (ji8) ≤ (l1.length : Int)
                · rw [if_pos c11] at H
                  have c11b0 := eq_true c11
                  have c11b1 : decide ((ji8) ≤ (l1.length : Int)) = true := decide_eq_true c11
                  clear c11
                  replace H := Option.bind_eq_some_iff.mp H
                  obtain ⟨t286, A120, H⟩ := H
                  replace H : (if 1 + t286.size ≤ 9223372036854775807 then (if x5_1.length < 5864062014805 then (railplanlaw3_WordsJoins.l0 k1 l0 l1 (x5_1 ++ [(([(⟨#[97]⟩ : ByteArray), (⟨#[98]⟩ : ByteArray) ++ t286] : List ByteArray))]) (wrap64 (x6_1 + 1))) else (none)) else (none)) = some r := H
                  have A12 := Aside0.mk A120
                  clear A120
                  by_cases c13 : 1 + t286.size ≤ 9223372036854775807
                  · rw [if_pos c13] at H
                    have c13b0 := eq_true c13
                    have c13b1 : decide (1 + t286.size ≤ 9223372036854775807) = true := decide_eq_true c13
                    try have c13b2 : (9223372036854775807 < 1 + t286.size) = False := eq_false (Nat.not_lt.2 c13)
                    obtain ⟨y287, hy287⟩ : ∃ y_ : List ByteArray, y_ = (([(⟨#[97]⟩ : ByteArray), (⟨#[98]⟩ : ByteArray) ++ t286] : List ByteArray)) := ⟨_, rfl⟩
                    replace H : (if x5_1.length < 5864062014805 then (railplanlaw3_WordsJoins.l0 k1 l0 l1 (x5_1 ++ [y287]) (wrap64 (x6_1 + 1))) else (none)) = some r := by first | (rw [hy287]; with_reducible exact H) | (have H2_ := (Option.bind_some _ _).symm.trans H; rw [hy287]; with_reducible exact H2_) | (have H2_ := (Option.bind_some _ _).symm.trans H; with_reducible exact H2_) | with_reducible exact H | (rw [hy287]; exact H) | exact H
                    have Ny287 := Aside0.mk hy287
                    clear hy287
                    by_cases c14 : x5_1.length < 5864062014805
                    · rw [if_pos c14] at H
                      have LMc14 := Aside0.mk c14
                      clear c14
                      obtain ⟨y290, hy290⟩ : ∃ y_ : List (List ByteArray), y_ = (x5_1 ++ [y287]) := ⟨_, rfl⟩
                      replace H : (railplanlaw3_WordsJoins.l0 k1 l0 l1 y290 (wrap64 (x6_1 + 1))) = some r := by first | (rw [hy290]; with_reducible exact H) | (have H2_ := (Option.bind_some _ _).symm.trans H; rw [hy290]; with_reducible exact H2_) | (have H2_ := (Option.bind_some _ _).symm.trans H; with_reducible exact H2_) | with_reducible exact H | (rw [hy290]; exact H) | exact H
                      have Ny290 := Aside0.mk hy290
                      clear hy290
                      have H' := Aside0.mk H
                      clear H
                      obtain ⟨i015, hi015, _, hsz15, _⟩ := info_parts info5
                      obtain ⟨A15, hcut15, hA15, hC15⟩ := print_mid_of (P := Tryd.prog) (Value.int .u8) 0 35 5 .i64 .i64 Tryd.underlying35 hi015 hsz15 A1 c1 l1 x6_1 (ji8) (of_decide_eq_true (by first | (with_reducible assumption) | assumption)) (by first | omega | exact of_decide_eq_true (by first | (with_reducible assumption) | assumption)) (of_decide_eq_true (by first | (with_reducible assumption) | assumption)) HC1.out
                      have HR285 := Aside0.mk (Kd.C_of_reads (h1 := fun _ => rfl) (hA15 _ (Kd.reads_of_C HR1.out)))
                      have HC285 := Aside0.mk hC15
                      clear hA15 hC15 hi015 hsz15
                      go_wp2_with (first | ((with_reducible refine gate_callee (f := 17) rfl ?_); refine goesL_ (some 27) rfl rfl Tryd.func17 (by kernel_rfl) rfl #[.slice A15 ((l1.take ((ji8) : Int).toNat).drop (x6_1 : Int).toNat).length (c1 - x6_1.toNat)] rfl (by (try simp only [List.map_toArray, List.map_cons, List.map_nil]); first | done | (rw [show ((l1.take ((ji8) : Int).toNat).drop (x6_1 : Int).toNat).length = ((ji8).toNat - x6_1.toNat) from (by rw [List.length_drop, List.length_take]; have h_ : ((ji8) : Int) ≤ (l1.length : Int) := of_decide_eq_true (by first | (with_reducible assumption) | assumption); omega)] <;> rfl) | (simp only [hji8]; rfl) | rfl | (simp only [List.length_drop, List.length_take]; rfl)) ?_; (with_reducible refine (railplanlaw3_pieces.calls k1 _ _ ((l1.take ((ji8) : Int).toNat).drop (x6_1 : Int).toNat) t286 _ ?side1 ?side2 A12.out).mono ?_); (case side1 => repeat (first | exact (Kd.C_below HR285.out HB.out) | (with_reducible refine Kd.C_alloc ?_ _) | (with_reducible refine Kd.C_drewN ?_ _) | (with_reducible refine Kd.C_drew ?_))); (case side2 => exact HC285.out); rintro e w16 ⟨rfl, hb⟩; refine ⟨_, rfl, ?_⟩; have n0_ := Aside0.mk (Kd.S_below (by (with_reducible repeat (first | apply Kd.S_alloc | apply Kd.S_drewN | apply Kd.S_drew)); exact HO_5.out) hb); have n1_ := Aside0.mk (below_step (by repeat (first | (with_reducible first | exact HB.out | apply below_alloc | apply pw_below_drewN | apply below_drew1) | exact HB.out)) hb); clear HO_5; clear HB; have HO_5 := n0_; have HB := n1_; clear n0_ n1_; (try clear hb); (try clear hb2); (try clear hk); (try clear hi)) | ((with_reducible refine gate_dst (N := 29) rfl ?_); refine Kd.R_lit Kd.string _ 9 ?hg (N := 29) ?hd (xs := ([(⟨#[97]⟩ : ByteArray), (⟨#[98]⟩ : ByteArray) ++ t286] : List ByteArray)) (inner := [.string (⟨#[97]⟩ : ByteArray), .string ((⟨#[98]⟩ : ByteArray) ++ t286)]) (ok := fun _ => True) (okp := fun _ => True) ?hr ?hp (fun _ hk => hk) trivial (Below.refl _ _) (Nat.le_refl _) (by simp) ?_; (case hd => rfl); (case hg => rfl); (case hr => first | (go_simp; done) | (go_simp; rfl)); (case hp => exact (Reps.one (show Kd.M Kd.string _ _ _ (⟨#[97]⟩ : ByteArray) [.string (⟨#[97]⟩ : ByteArray)] from rfl) (Reps.one (show Kd.M Kd.string _ _ _ ((⟨#[98]⟩ : ByteArray) ++ t286) [.string ((⟨#[98]⟩ : ByteArray) ++ t286)] from rfl) (Reps.none _ _)))); intro v288 w17 ho18 hb hg_ hnew_; clear hg_ hnew_; (first | rw [← Ny287.out] at ho18 | (simp only [Int.reduceToNat] at ho18; rw [← Ny287.out] at ho18)); have n0_ := Aside0.mk (Kd.S_elder' (by (with_reducible repeat (first | apply Kd.S_alloc | apply Kd.S_drewN | apply Kd.S_drew)); exact HO_5.out) (Kd.R_base ho18) hb); have n1_ := Aside0.mk (Kd.R_lower ho18 (below_size (by repeat (first | (with_reducible first | exact HB.out | apply below_alloc | apply pw_below_drewN | apply below_drew1) | exact HB.out)))); have n2_ := Aside0.mk (below_step (by repeat (first | (with_reducible first | exact HB.out | apply below_alloc | apply pw_below_drewN | apply below_drew1) | exact HB.out)) hb); clear HO_5; clear HB; have HO_5 := n0_; have HO289 := n1_; have HB := n2_; clear n0_ n1_ n2_; clear hb ho18; obtain ⟨Ao20, co20, eo20⟩ := Kd.R_slice HO289.out; subst eo20) | ((with_reducible refine gate_builtin (b := .append) (xs := #[.tmp 18, .tmp 30]) rfl ?_); at_builtin; refine Kd.S_append (Kd.slice 9 Kd.string) (w0 := w) w.heap.size rfl (.tmp 18) (.tmp 30) 46 43 (.slice none 0 0) 24 rfl Tryd.underlying46 info43 rfl (by decide) (by omega) u5 x5_1 y287 [.slice Ao20 y287.length co20] (fun _ => True) (fun k_ => some k_ = (.slice Ao20 y287.length co20 : Value).ownBlock) rfl rfl ?aP (fun k_ hk_ => ((Kd.R_mono (ok' := fun k_ => ((fun _ => True)) k_ ∧ some k_ ≠ (u5 : Value).ownBlock) (Kd.R_apart' (HO289.out) (Kd.S_typed HO_5.out) (by decide)) (fun k_ hk => ⟨trivial, hk.2⟩))).1 k_ hk_.symm) ?aF ?aO ?aB ?aS ?aL ?_; (case aP => exact Kd.M_row (Kd.R_mono (Kd.R_tight rfl (Kd.R_mono (ok' := fun k_ => ((fun _ => True)) k_ ∧ some k_ ≠ (u5 : Value).ownBlock) (Kd.R_apart' (HO289.out) (Kd.S_typed HO_5.out) (by decide)) (fun k_ hk => ⟨trivial, hk.2⟩))) (fun _ h_ => h_))); (case aB => exact (by repeat (first | (with_reducible first | exact HB.out | apply below_alloc | apply pw_below_drewN | apply below_drew1) | exact HB.out))); (case aF => exact (fun _ _ => trivial)); (case aO => exact (by (with_reducible repeat (first | apply Kd.S_alloc | apply Kd.S_drewN | apply Kd.S_drew)); exact Kd.S_mono HO_5.out (fun k_ hk => ⟨trivial, fun e_ => hk.2 e_⟩))); (case aS => exact (below_size (by repeat (first | (with_reducible first | exact HB.out | apply below_alloc | apply pw_below_drewN | apply below_drew1) | exact HB.out)))); (case aL => have := LMc14.out; omega); intro v291 w19 ho hb hg hat; rw [← Ny290.out] at ho; have n0_ := Aside0.mk (hb); have n1_ := Aside0.mk (ho); clear HB; clear HO_5; clear HO289; have HB := n0_; have HO292 := n1_; clear n0_ n1_; clear ho hb hg hat))
                      go_roundg k1
                      case measure => have := HK1.out; omega
                      case rel => exact ⟨(y290), (wrap64 (x6_1 + 1)), (by first | rfl | (simp; done) | (simp [*]; done)), H', ⟨by have := HK1.out; omega⟩, ⟨by (with_reducible repeat (first | apply Kd.S_alloc | apply Kd.S_drewN | apply Kd.S_drew)); exact HO292.out⟩, ⟨by repeat (first | (with_reducible first | exact HB.out | apply below_alloc | apply pw_below_drewN | apply below_drew1) | exact HB.out)⟩⟩
                    · rw [if_neg c14] at H
                      exact absurd H (by simp)
                  · rw [if_neg c13] at H
                    exact absurd H (by simp)
                · rw [if_neg c11] at H
                  exact absurd H (by simp)
              · rw [if_neg c10] at H
                exact absurd H (by simp)
            · rw [if_neg c9] at H
              exact absurd H (by simp)
          · rw [if_neg c7] at H
            have c7b0 : decide (x6_1 < 20) = false := decide_eq_false c7
            clear c7
            have H' := Aside0.mk H
            clear H
            go_wp2
            go_meet
            case rel => exact ⟨_, (x5_1), H', ⟨by have := HK1.out; first | omega | exact Nat.le_refl _⟩, ⟨by (with_reducible repeat (first | apply Kd.S_alloc | apply Kd.S_drewN | apply Kd.S_drew)); exact HO_5.out⟩, ⟨by repeat (first | (with_reducible first | exact HB.out | apply below_alloc | apply pw_below_drewN | apply below_drew1) | exact HB.out)⟩⟩
        · rw [if_neg c6] at H
          have c6b0 : decide (x6_1 < (l1.length : Int)) = false := decide_eq_false c6
          clear c6
          (first | rw [c6b0] | (simp only [i64_w, i32_w]; rw [c6b0]) | rw [c6b1] | skip)
          have H' := Aside0.mk H
          clear H
          go_wp2
          go_meet
          case rel => exact ⟨_, (x5_1), H', ⟨by have := HK1.out; first | omega | exact Nat.le_refl _⟩, ⟨by (with_reducible repeat (first | apply Kd.S_alloc | apply Kd.S_drewN | apply Kd.S_drew)); exact HO_5.out⟩, ⟨by repeat (first | (with_reducible first | exact HB.out | apply below_alloc | apply pw_below_drewN | apply below_drew1) | exact HB.out)⟩⟩
  case rest =>
    clear HC3
    try clear c1
    try clear p2
    try clear c6
    try clear c6b0
    try clear c6b1
    try clear p6
    try clear c7
    try clear c7b0
    try clear c9
    try clear c9b0
    try clear c9b1
    try clear c10
    try clear c10b0
    try clear c10b1
    try clear c11
    try clear c11b0
    try clear c11b1
    try clear c13
    try clear c13b0
    try clear c13b1
    try clear c13b2
    try clear c14
    try clear c17
    try clear p2
    obtain ⟨kq, x5_2, HA, HJ2, HO_5, HB⟩ := hcut
    cases kq with
    | zero => exact absurd HA.out (by simp [railplanlaw3_WordsJoins.j1])
    | succ kj2 =>
      have H := HA.out
      clear HA
      simp only [railplanlaw3_WordsJoins.j1] at H
      replace H := Option.bind_eq_some_iff.mp H
      obtain ⟨t293, A210, H⟩ := H
      replace H : (if t293 = true then ((words_Join.f kj2 l0).bind fun t294 => ((railplanref1_Join.f kj2 l0).bind fun t295 => (if t294.toList = t295.toList then ((words_Join.f kj2 x5_2).bind fun t296 => ((railplanref1_Join.f kj2 x5_2).bind fun t297 => (some (t296.toList == t297.toList)))) else (some false)))) else (some false)) = some r := H
      have A21 := Aside0.mk A210
      clear A210
      by_cases c22 : t293 = true
      · subst c22
        have H1 : ((words_Join.f kj2 l0).bind fun t294 => ((railplanref1_Join.f kj2 l0).bind fun t295 => (if t294.toList = t295.toList then ((words_Join.f kj2 x5_2).bind fun t296 => ((railplanref1_Join.f kj2 x5_2).bind fun t297 => (some (t296.toList == t297.toList)))) else (some false)))) = some r := by rw [if_pos rfl] at H; exact H
        clear H
        have H := H1
        clear H1
        replace H := Option.bind_eq_some_iff.mp H
        obtain ⟨t294, A230, H⟩ := H
        replace H : ((railplanref1_Join.f kj2 l0).bind fun t295 => (if t294.toList = t295.toList then ((words_Join.f kj2 x5_2).bind fun t296 => ((railplanref1_Join.f kj2 x5_2).bind fun t297 => (some (t296.toList == t297.toList)))) else (some false))) = some r := H
        have A23 := Aside0.mk A230
        clear A230
        replace H := Option.bind_eq_some_iff.mp H
        obtain ⟨t295, A240, H⟩ := H
        replace H : (if t294.toList = t295.toList then ((words_Join.f kj2 x5_2).bind fun t296 => ((railplanref1_Join.f kj2 x5_2).bind fun t297 => (some (t296.toList == t297.toList)))) else (some false)) = some r := H
        have A24 := Aside0.mk A240
        clear A240
        by_cases c25 : t294.toList = t295.toList
        · rw [if_pos c25] at H
          have c25b0 : (t294.toList == t295.toList) = true := beq_iff_eq.mpr c25
          have c25b1 : (t294.toList != t295.toList) = false := bne_eq_false_iff_eq.mpr c25
          clear c25
          replace H := Option.bind_eq_some_iff.mp H
          obtain ⟨t296, A260, H⟩ := H
          replace H : ((railplanref1_Join.f kj2 x5_2).bind fun t297 => (some (t296.toList == t297.toList))) = some r := H
          have A26 := Aside0.mk A260
          clear A260
          replace H := Option.bind_eq_some_iff.mp H
          obtain ⟨t297, A270, H⟩ := H
          replace H : (some (t296.toList == t297.toList)) = some r := H
          have A27 := Aside0.mk A270
          clear A270
          obtain rfl := Option.some.inj H
          simp only [Option.some.injEq, Prod.mk.injEq] at H
          obtain ⟨rfl⟩ := H
          go_wp2_with (first | ((with_reducible refine gate_callee (f := 18) rfl ?_); refine goesL_ (some 32) rfl rfl Tryd.func18 (by kernel_rfl) rfl #[] rfl (by (try simp only [List.map_toArray, List.map_cons, List.map_nil]); first | done | rfl | (simp only [List.length_drop, List.length_take]; rfl)) ?_; (with_reducible refine (railplanlaw3_awake.calls kj2  true _ ?side1 A21.out).mono ?_); (case side1 => exact ⟨hL_.out.below (by repeat (first | (with_reducible first | exact HB.out | apply below_alloc | apply pw_below_drewN | apply below_drew1) | exact HB.out))⟩); rintro e w28 ⟨rfl, hb⟩; refine ⟨_, rfl, ?_⟩; have n0_ := Aside0.mk (Kd.S_below (by (with_reducible repeat (first | apply Kd.S_alloc | apply Kd.S_drewN | apply Kd.S_drew)); exact HO_5.out) hb); have n1_ := Aside0.mk (below_step (by repeat (first | (with_reducible first | exact HB.out | apply below_alloc | apply pw_below_drewN | apply below_drew1) | exact HB.out)) hb); clear HO_5; clear HB; have HO_5 := n0_; have HB := n1_; clear n0_ n1_; (try clear hb); (try clear hb2); (try clear hk); (try clear hi)) | (go_at_call 26; (with_reducible refine (words_Join.calls kj2 _ _ l0 t294 _ ?side1 ?side2 A23.out).mono ?_); (case side1 => repeat (first | exact (Kd.C_below HR0.out HB.out) | (with_reducible refine Kd.C_alloc ?_ _) | (with_reducible refine Kd.C_drewN ?_ _) | (with_reducible refine Kd.C_drew ?_))); (case side2 => exact HC0.out); rintro e w29 ⟨rfl, hb⟩; have n0_ := Aside0.mk (Kd.S_below (by (with_reducible repeat (first | apply Kd.S_alloc | apply Kd.S_drewN | apply Kd.S_drew)); exact HO_5.out) hb); have n1_ := Aside0.mk (below_step (by repeat (first | (with_reducible first | exact HB.out | apply below_alloc | apply pw_below_drewN | apply below_drew1) | exact HB.out)) hb); clear HO_5; clear HB; have HO_5 := n0_; have HB := n1_; clear n0_ n1_; (try clear hb); (try clear hb2); (try clear hk); (try clear hi)) | (go_at_call 27; (with_reducible refine (railplanref1_Join.calls kj2 _ _ l0 t295 _ ?side1 ?side2 A24.out).mono ?_); (case side1 => repeat (first | exact (Kd.C_below HR0.out HB.out) | (with_reducible refine Kd.C_alloc ?_ _) | (with_reducible refine Kd.C_drewN ?_ _) | (with_reducible refine Kd.C_drew ?_))); (case side2 => exact HC0.out); rintro e w' ⟨rfl, ⟨nd, rfl⟩⟩; obtain ⟨Ao30, co30, eo30⟩ := Kd.S_slice HO_5.out; subst eo30) | (go_at_call 26; (with_reducible refine (words_Join.calls kj2 _ _ x5_2 t296 _ ?side1 ?side2 A26.out).mono ?_); (case side1 => repeat (first | exact (Kd.S_reads' HO_5.out).2.2 | (with_reducible refine Kd.C_alloc ?_ _) | (with_reducible refine Kd.C_drewN ?_ _) | (with_reducible refine Kd.C_drew ?_))); (case side2 => exact (Kd.S_reads' HO_5.out).2.1); rintro e w31 ⟨rfl, hb⟩; have n0_ := Aside0.mk (Kd.S_below (by (with_reducible repeat (first | apply Kd.S_alloc | apply Kd.S_drewN | apply Kd.S_drew)); exact HO_5.out) hb); have n1_ := Aside0.mk (below_step (by repeat (first | (with_reducible first | exact HB.out | apply below_alloc | apply pw_below_drewN | apply below_drew1) | exact HB.out)) hb); clear HO_5; clear HB; have HO_5 := n0_; have HB := n1_; clear n0_ n1_; (try clear hb); (try clear hb2); (try clear hk); (try clear hi)) | (go_at_call 27; (with_reducible refine (railplanref1_Join.calls kj2 _ _ x5_2 t297 _ ?side1 ?side2 A27.out).mono ?_); (case side1 => repeat (first | exact (Kd.S_reads' HO_5.out).2.2 | (with_reducible refine Kd.C_alloc ?_ _) | (with_reducible refine Kd.C_drewN ?_ _) | (with_reducible refine Kd.C_drew ?_))); (case side2 => exact (Kd.S_reads' HO_5.out).2.1); rintro e w' ⟨rfl, ⟨nd, rfl⟩⟩))
          go_ret
          exact ⟨by first | rfl | (simp [errW_none, errW_some] <;> rfl) | (simp [*, errW_none, errW_some] <;> rfl), by repeat (first | (with_reducible first | exact HB.out | apply below_alloc | apply pw_below_drewN | apply below_drew1) | exact HB.out)⟩
        · rw [if_neg c25] at H
          have c25b0 : (t294.toList == t295.toList) = false := beq_eq_false_iff_ne.mpr c25
          have c25b1 : (t294.toList != t295.toList) = true := bne_iff_ne.mpr c25
          obtain rfl := Option.some.inj H
          exact absurd hr_.out (by decide)
      · replace c22 := Bool.eq_false_iff.mpr c22
        subst c22
        have H1 : (some false) = some r := by rw [if_neg (show ¬ (false = true) by decide)] at H; exact H
        clear H
        have H := H1
        clear H1
        obtain rfl := Option.some.inj H
        exact absurd hr_.out (by decide)

def railplanlaw3_WordsJoins.Pure : Prop := ∀ (l0 : List (List ByteArray)) (l1 : List Int), (fun xs : List (List ByteArray) => xs.length * 24 ≤ 140737488351232 ∧ xs.length ≤ maxLen ∧ ∀ x ∈ xs, (fun xs : List ByteArray => xs.length * 16 ≤ 140737488351232 ∧ xs.length ≤ maxLen ∧ ∀ x ∈ xs, (fun x : ByteArray => x.size ≤ 140737488351232) x) x) l0 → (fun xs : List Int => xs.length * 1 ≤ 140737488351232 ∧ xs.length ≤ maxLen ∧ ∀ x ∈ xs, (fun x : Int => (Lit.int .u8 x).wf = true) x) l1 → (fun xs : List (List ByteArray) => (xs.map (fun xs : List ByteArray => (xs.map (fun x : ByteArray => x.size + 1)).sum + 1)).sum + 1) l0 + (fun xs : List Int => (xs.map (fun _ : Int => 1)).sum + 1) l1 ≤ 1048576 → ∃ k, railplanlaw3_WordsJoins.f k l0 l1 = some true

end Go.Proofs.YtnmbljpifadipaaDoor.X
