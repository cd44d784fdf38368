/- Written by a program of this claim. Proved: each Go function named below, called with any arguments at which its Lean function answers, returns that answer; or, of a law, its given statement. -/
import Derived.Test.YtnmbljpifadipaaDoorX0
import Derived.Test.YtnmbljpifadipaaDoorX3
import Derived.Test.YtnmbljpifadipaaDoorX10
import Derived.Test.YtnmbljpifadipaaDoorQLines
namespace Go.Proofs.YtnmbljpifadipaaDoor.X
open Go.RowKit Go.Proofs.YtnmbljpifadipaaDoorW Go.Proofs.YtnmbljpifadipaaDoorW.PrintWords Go.Proofs.YtnmbljpifadipaaDoorW.PrintLast Go.Proofs.YtnmbljpifadipaaDoorW.PrintMore
attribute [local go_sem] max2_int min2_int max_two min_two max_three min_three max_four min_four   -- for this text's walks alone
set_option linter.unusedVariables false
set_option linter.unusedSimpArgs false

/-! ### railplanlaw3_WordsLimits: function 7 -/
mutual
def railplanlaw3_WordsLimits.l0 : Nat → Int → Int → ByteArray → ByteArray → Int → Option (Bool)
  | 0, _, _, _, _, _ => none
  | k + 1, x0, x1, x2, x7, x8 => if x8 < (wrap64 (Int.tmod x1 5)) then (if x7.size + 1 ≤ 9223372036854775807 then (railplanlaw3_WordsLimits.l0 k x0 x1 x2 (x7 ++ (⟨#[10]⟩ : ByteArray)) (wrap64 (x8 + 1))) else (none)) else (railplanlaw3_WordsLimits.l1 k x0 x1 x2 x7 0)
def railplanlaw3_WordsLimits.l1 : Nat → Int → Int → ByteArray → ByteArray → Int → Option (Bool)
  | 0, _, _, _, _, _ => none
  | k + 1, x0, x1, x2, x7, x9 => if x9 < x0 then (if x7.size + 2 ≤ 9223372036854775807 then (railplanlaw3_WordsLimits.l1 k x0 x1 x2 (x7 ++ (⟨#[119, 32]⟩ : ByteArray)) (wrap64 (x9 + 1))) else (none)) else (if x0 > 64 then (if x7.size + 1 ≤ 9223372036854775807 then (if 0 ≤ (mn (x2.size : Int) 100) then (if (mn (x2.size : Int) 100) ≤ (x2.size : Int) then (if x7.size + 1 + (x2.extract 0 ((mn (x2.size : Int) 100) : Int).toNat).size ≤ 9223372036854775807 then ((words_Lines.f k ((x7 ++ (⟨#[10]⟩ : ByteArray)) ++ (x2.extract 0 ((mn (x2.size : Int) 100) : Int).toNat))).bind fun bt194 => ((railplanlaw3_awake.f k).bind fun t199 => (if t199 = true then (if bt194.2.2 = 7 then (some (bt194.2.1 == (wrap64 (1 + (wrap64 (Int.tmod x1 5)))))) else (some false)) else (some false)))) else (none)) else (none)) else (none)) else (none)) else ((words_Lines.f k x7).bind fun bt200 => ((railplanlaw3_awake.f k).bind fun t205 => (if t205 = true then (if bt200.2.2 = 0 then (if bt200.2.1 = 0 then (if x0 = 0 then (if (bt200.1.length : Int) = 0 then (some true) else (if (bt200.1.length : Int) = 1 then (if 0 < (bt200.1.length : Int) then (some (((rd_L3 bt200.1 0).length : Int) == x0)) else (none)) else (some false))) else (if (bt200.1.length : Int) = 1 then (if 0 < (bt200.1.length : Int) then (some (((rd_L3 bt200.1 0).length : Int) == x0)) else (none)) else (some false))) else (some false)) else (some false)) else (some false)))))
end
def railplanlaw3_WordsLimits.f (k : Nat) (a0 : Int) (a1 : Int) (a2 : ByteArray) : Option (Bool) := (railplankeep_Pick.f a0 68).bind fun t193 => (railplanlaw3_WordsLimits.l0 k t193 a1 a2 (⟨#[]⟩ : ByteArray) 0)
theorem railplanlaw3_WordsLimits.mono_l : ∀ k, (∀ y0 y1 y2 y3 y4, LeO (railplanlaw3_WordsLimits.l0 k y0 y1 y2 y3 y4) (railplanlaw3_WordsLimits.l0 (k + 1) y0 y1 y2 y3 y4)) ∧ (∀ y0 y1 y2 y3 y4, LeO (railplanlaw3_WordsLimits.l1 k y0 y1 y2 y3 y4) (railplanlaw3_WordsLimits.l1 (k + 1) y0 y1 y2 y3 y4))
  | 0 => ⟨fun _ _ _ _ _ r h => by simp [railplanlaw3_WordsLimits.l0] at h, fun _ _ _ _ _ r h => by simp [railplanlaw3_WordsLimits.l1] at h⟩
  | k + 1 => by
    obtain ⟨ih0, ih1⟩ := railplanlaw3_WordsLimits.mono_l k
    refine ⟨?_, ?_⟩
    · intro y0 y1 y2 y3 y4
      unfold railplanlaw3_WordsLimits.l0
      repeat' first
      | (with_reducible exact ih0 _ _ _ _ _)
      | (with_reducible exact ih1 _ _ _ _ _)
      | (with_reducible exact railplanlaw3_awake.mono _)
      | (with_reducible exact words_Lines.mono _ _)
      | (with_reducible exact LeO.refl _)
      | (with_reducible exact LeO.none _)
      | (with_reducible refine LeO.ite ?_ ?_)
      | (with_reducible refine LeO.bind ?_ (fun _ => ?_))
      | exact ih0 _ _ _ _ _
      | exact ih1 _ _ _ _ _
      | exact railplanlaw3_awake.mono _
      | exact words_Lines.mono _ _
      | exact LeO.none _
      | refine LeO.ite ?_ ?_
      | refine LeO.bind ?_ (fun _ => ?_)
    · intro y0 y1 y2 y3 y4
      unfold railplanlaw3_WordsLimits.l1
      repeat' first
      | (with_reducible exact ih0 _ _ _ _ _)
      | (with_reducible exact ih1 _ _ _ _ _)
      | (with_reducible exact railplanlaw3_awake.mono _)
      | (with_reducible exact words_Lines.mono _ _)
      | (with_reducible exact LeO.refl _)
      | (with_reducible exact LeO.none _)
      | (with_reducible refine LeO.ite ?_ ?_)
      | (with_reducible refine LeO.bind ?_ (fun _ => ?_))
      | exact ih0 _ _ _ _ _
      | exact ih1 _ _ _ _ _
      | exact railplanlaw3_awake.mono _
      | exact words_Lines.mono _ _
      | exact LeO.none _
      | refine LeO.ite ?_ ?_
      | refine LeO.bind ?_ (fun _ => ?_)
theorem railplanlaw3_WordsLimits.mono : ∀ a0 a1 a2 k, LeO (railplanlaw3_WordsLimits.f k a0 a1 a2) (railplanlaw3_WordsLimits.f (k + 1) a0 a1 a2) := by
  intro a0 a1 a2 k
  obtain ⟨ih0, ih1⟩ := railplanlaw3_WordsLimits.mono_l k
  unfold railplanlaw3_WordsLimits.f
  repeat' first
      | (with_reducible exact ih0 _ _ _ _ _)
      | (with_reducible exact ih1 _ _ _ _ _)
      | (with_reducible exact railplanlaw3_awake.mono _)
      | (with_reducible exact words_Lines.mono _ _)
      | (with_reducible exact LeO.refl _)
      | (with_reducible exact LeO.none _)
      | (with_reducible refine LeO.ite ?_ ?_)
      | (with_reducible refine LeO.bind ?_ (fun _ => ?_))
      | exact ih0 _ _ _ _ _
      | exact ih1 _ _ _ _ _
      | exact railplanlaw3_awake.mono _
      | exact words_Lines.mono _ _
      | exact LeO.none _
      | refine LeO.ite ?_ ?_
      | refine LeO.bind ?_ (fun _ => ?_)
set_option maxHeartbeats 8000000 in
set_option maxRecDepth 100000 in
theorem railplanlaw3_WordsLimits.calls (k : Nat) (a0 : Int) (a1 : Int) (a2 : ByteArray) (r : Bool) (w : World) (hL_ : Aside0 (Laid w)) (hr_ : Aside0 (r = true)) (h : railplanlaw3_WordsLimits.f k a0 a1 a2 = some r) :
    Calls Tryd.prog 7 #[.int .i64 a0, .int .u8 a1, .string a2] w fun e w' => e = .returned (.bool r) ∧ Below w.heap.size w w' := by
  have HB := Aside0.mk (Below.refl w.heap.size w)
  have H : ((railplankeep_Pick.f a0 68).bind fun t193 => (railplanlaw3_WordsLimits.l0 k t193 a1 a2 (⟨#[]⟩ : ByteArray) 0)) = some r := h
  clear h
  replace H := Option.bind_eq_some_iff.mp H
  obtain ⟨t193, A40, H⟩ := H
  replace H : (railplanlaw3_WordsLimits.l0 k t193 a1 a2 (⟨#[]⟩ : ByteArray) 0) = some r := H
  have A4 := Aside0.mk A40
  clear A40
  have H' := Aside0.mk H
  clear H
  go_enter Tryd.func7, Tryd.ntmps7
  go_wp2_with (first | ((with_reducible refine gate_callee (f := 23) rfl ?_); refine goesL_ (some 17) rfl rfl Tryd.func23 (by kernel_rfl) rfl #[.int .i64 a0, .int .i64 68] rfl (by (try simp only [List.map_toArray, List.map_cons, List.map_nil]); first | done | rfl | (simp only [List.length_drop, List.length_take]; rfl)) ?_; (with_reducible refine (railplankeep_Pick.calls a0 68 t193 _ A4.out).mono ?_); rintro e w' ⟨rfl, ⟨nd, rfl⟩⟩; refine ⟨_, rfl, ?_⟩))
  go_loopg [7, 8] k (fun kq v7 v8 w' => ∃ (x7_1 : ByteArray) (x8_1 : Int), v7 = .string x7_1 ∧ v8 = .int .i64 x8_1 ∧ Aside0 (railplanlaw3_WordsLimits.l0 kq t193 a1 a2 x7_1 x8_1 = some r) ∧ Aside0 (kq ≤ k) ∧ Aside0 (Below w.heap.size w w'))
  case atStart => exact ⟨((⟨#[]⟩ : ByteArray)), (0), (by first | rfl | (simp; done) | (simp [*]; done)), (by first | rfl | (simp; done) | (simp [*]; done)), H', ⟨Nat.le_refl _⟩, ⟨by repeat (first | (with_reducible first | exact HB.out | apply below_alloc | apply pw_below_drewN | apply below_drew1) | exact HB.out)⟩⟩
  case round =>
    clear H'
    try clear c2
    try clear p2
    obtain ⟨x7_1, x8_1, rfl, rfl, HA, HK1, HB⟩ := hrel
    cases gk with
    | zero => exact absurd HA.out (by simp [railplanlaw3_WordsLimits.l0])
    | succ k1 =>
      have H := HA.out
      clear HA
      simp only [railplanlaw3_WordsLimits.l0] at H
      by_cases c5 : x8_1 < (wrap64 (Int.tmod a1 5))
      · rw [if_pos c5] at H
        have c5b0 : decide (x8_1 < (wrap64 (Int.tmod a1 5))) = true := decide_eq_true c5
        clear c5
        by_cases c6 : x7_1.size + 1 ≤ 9223372036854775807
        · rw [if_pos c6] at H
          have c6b0 := eq_true c6
          have c6b1 : decide (x7_1.size + 1 ≤ 9223372036854775807) = true := decide_eq_true c6
          try have c6b2 : (9223372036854775807 < x7_1.size + 1) = False := eq_false (Nat.not_lt.2 c6)
          have H' := Aside0.mk H
          clear H
          go_wp2
          go_roundg k1
          case measure => have := HK1.out; omega
          case rel => exact ⟨(x7_1 ++ (⟨#[10]⟩ : ByteArray)), (wrap64 (x8_1 + 1)), (by first | rfl | (simp; done) | (simp [*]; done)), (by first | rfl | (simp; done) | (simp [*]; done)), H', ⟨by have := HK1.out; omega⟩, ⟨by repeat (first | (with_reducible first | exact HB.out | apply below_alloc | apply pw_below_drewN | apply below_drew1) | exact HB.out)⟩⟩
        · rw [if_neg c6] at H
          exact absurd H (by simp)
      · rw [if_neg c5] at H
        have c5b0 : decide (x8_1 < (wrap64 (Int.tmod a1 5))) = false := decide_eq_false c5
        clear c5
        have H' := Aside0.mk H
        clear H
        go_wp2
        go_loopg [7, 9] k1 (fun kq v7 v9 w' => ∃ (x7_2 : ByteArray) (x9_2 : Int), v7 = .string x7_2 ∧ v9 = .int .i64 x9_2 ∧ Aside0 (railplanlaw3_WordsLimits.l1 kq t193 a1 a2 x7_2 x9_2 = some r) ∧ Aside0 (kq ≤ k1) ∧ Aside0 (Below w.heap.size w w'))
        case atStart => exact ⟨(x7_1), (0), (by first | rfl | (simp; done) | (simp [*]; done)), (by first | rfl | (simp; done) | (simp [*]; done)), H', ⟨Nat.le_refl _⟩, ⟨by repeat (first | (with_reducible first | exact HB.out | apply below_alloc | apply pw_below_drewN | apply below_drew1) | exact HB.out)⟩⟩
        case round =>
          clear H'
          try clear c2
          try clear p2
          try clear c5
          try clear c5b0
          try clear c6
          try clear c6b0
          try clear c6b1
          try clear c6b2
          try clear p6
          try clear p2
          obtain ⟨x7_2, x9_2, rfl, rfl, HA, HK2, HB⟩ := hrel
          cases gk with
          | zero => exact absurd HA.out (by simp [railplanlaw3_WordsLimits.l1])
          | succ k2 =>
            have H := HA.out
            clear HA
            simp only [railplanlaw3_WordsLimits.l1] at H
            by_cases c7 : x9_2 < t193
            · rw [if_pos c7] at H
              have c7b0 : decide (x9_2 < t193) = true := decide_eq_true c7
              clear c7
              by_cases c8 : x7_2.size + 2 ≤ 9223372036854775807
              · rw [if_pos c8] at H
                have c8b0 := eq_true c8
                have c8b1 : decide (x7_2.size + 2 ≤ 9223372036854775807) = true := decide_eq_true c8
                try have c8b2 : (9223372036854775807 < x7_2.size + 2) = False := eq_false (Nat.not_lt.2 c8)
                have H' := Aside0.mk H
                clear H
                go_wp2
                go_roundg k2
                case measure => have := HK1.out; have := HK2.out; omega
                case rel => exact ⟨(x7_2 ++ (⟨#[119, 32]⟩ : ByteArray)), (wrap64 (x9_2 + 1)), (by first | rfl | (simp; done) | (simp [*]; done)), (by first | rfl | (simp; done) | (simp [*]; done)), H', ⟨by have := HK1.out; have := HK2.out; omega⟩, ⟨by repeat (first | (with_reducible first | exact HB.out | apply below_alloc | apply pw_below_drewN | apply below_drew1) | exact HB.out)⟩⟩
              · rw [if_neg c8] at H
                exact absurd H (by simp)
            · rw [if_neg c7] at H
              have c7b0 : decide (x9_2 < t193) = false := decide_eq_false c7
              clear c7
              by_cases c9 : t193 > 64
              · rw [if_pos c9] at H
                have c9b0 : decide (64 < t193) = true := decide_eq_true c9
                clear c9
                by_cases c10 : x7_2.size + 1 ≤ 9223372036854775807
                · rw [if_pos c10] at H
                  have c10b0 := eq_true c10
                  have c10b1 : decide (x7_2.size + 1 ≤ 9223372036854775807) = true := decide_eq_true c10
                  try have c10b2 : (9223372036854775807 < x7_2.size + 1) = False := eq_false (Nat.not_lt.2 c10)
                  obtain ⟨ji11, hji11⟩ : ∃ j_ : Int, (mn (a2.size : Int) 100) = j_ := ⟨_, rfl⟩
                  replace H : (if 0 ≤ (ji11) then (if (ji11) ≤ (a2.size : Int) then (if x7_2.size + 1 + (a2.extract 0 ((ji11) : Int).toNat).size ≤ 9223372036854775807 then ((words_Lines.f k2 ((x7_2 ++ (⟨#[10]⟩ : ByteArray)) ++ (a2.extract 0 ((ji11) : Int).toNat))).bind fun bt194 => ((railplanlaw3_awake.f k2).bind fun t199 => (if t199 = true then (if bt194.2.2 = 7 then (some (bt194.2.1 == (wrap64 (1 + (wrap64 (Int.tmod a1 5)))))) else (some false)) else (some false)))) else (none)) else (none)) else (none)) = some r := by first | (rw [hji11] at H; exact H) | (simp only [hji11] at H ⊢; exact H)
                  have hji11_ : (if 100 < (a2.size : Int) then 100 else (a2.size : Int)) = ji11 := hji11
                  by_cases c12 : 0 ≤ (ji11)
                  · rw [if_pos c12] at H
                    have c12b0 := eq_true c12
                    have c12b1 : decide (0 ≤ (ji11)) = true := decide_eq_true c12
                    clear c12
                    by_cases c13 : (ji11) ≤ (a2.size : Int)
                    · rw [if_pos c13] at H
                      have c13b0 := eq_true c13
                      have c13b1 : decide ((ji11) ≤ (a2.size : Int)) = true := decide_eq_true c13
                      clear c13
                      by_cases c14 : x7_2.size + 1 + (a2.extract 0 ((ji11) : Int).toNat).size ≤ 9223372036854775807
                      · rw [if_pos c14] at H
                        have c14b0 := eq_true c14
                        have c14b1 : decide (x7_2.size + 1 + (a2.extract 0 ((ji11) : Int).toNat).size ≤ 9223372036854775807) = true := decide_eq_true c14
                        try have c14b2 : (9223372036854775807 < x7_2.size + 1 + (a2.extract 0 ((ji11) : Int).toNat).size) = False := eq_false (Nat.not_lt.2 c14)
                        try have c14b3 : (9223372036854775807 < x7_2.size + 1 + (ji11).toNat) = False := eq_false (by have h_ := c14; simp only [ByteArray.size_extract] at h_; have := of_eq_true c13b0; omega)
                        replace H := Option.bind_eq_some_iff.mp H
                        obtain ⟨⟨t194, t195, t196⟩, A150, H⟩ := H
                        replace H : ((railplanlaw3_awake.f k2).bind fun t199 => (if t199 = true then (if t196 = 7 then (some (t195 == (wrap64 (1 + (wrap64 (Int.tmod a1 5)))))) else (some false)) else (some false))) = some r := H
                        have A15 := Aside0.mk A150
                        clear A150
                        replace H := Option.bind_eq_some_iff.mp H
                        obtain ⟨t199, A160, H⟩ := H
                        replace H : (if t199 = true then (if t196 = 7 then (some (t195 == (wrap64 (1 + (wrap64 (Int.tmod a1 5)))))) else (some false)) else (some false)) = some r := H
                        have A16 := Aside0.mk A160
                        clear A160
                        by_cases c17 : t199 = true
                        · subst c17
                          have H1 : (if t196 = 7 then (some (t195 == (wrap64 (1 + (wrap64 (Int.tmod a1 5)))))) else (some false)) = some r := by rw [if_pos rfl] at H; exact H
                          clear H
                          have H := H1
                          clear H1
                          by_cases c18 : t196 = 7
                          · rw [if_pos c18] at H
                            have c18b0 : (t196 == 7) = true := beq_iff_eq.mpr c18
                            have c18b1 : (t196 != 7) = false := bne_eq_false_iff_eq.mpr c18
                            clear c18
                            obtain rfl := Option.some.inj H
                            simp only [Option.some.injEq, Prod.mk.injEq] at H
                            obtain ⟨rfl⟩ := H
                            go_wp2_with (first | ((with_reducible refine gate_callee (f := 13) rfl ?_); refine goesL_ (some 45) rfl rfl Tryd.func13 (by kernel_rfl) rfl #[.string ((x7_2 ++ (⟨#[10]⟩ : ByteArray)) ++ (a2.extract 0 ((ji11) : Int).toNat))] rfl (by (try simp only [List.map_toArray, List.map_cons, List.map_nil]); first | done | (simp only [hji11]; rfl) | rfl | (simp only [List.length_drop, List.length_take]; rfl)) ?_; (with_reducible refine (words_Lines.calls k2 ((x7_2 ++ (⟨#[10]⟩ : ByteArray)) ++ (a2.extract 0 ((ji11) : Int).toNat)) t194 t195 t196 _ ?side1 A15.out).mono ?_); (case side1 => exact ⟨hL_.out.below (by repeat (first | (with_reducible first | exact HB.out | apply below_alloc | apply pw_below_drewN | apply below_drew1) | exact HB.out))⟩); rintro e w19 ⟨v197, rfl, ho0, hb⟩; refine ⟨_, rfl, ?_⟩; have n0_ := Aside0.mk (Kd.S_lower ho0 (below_size (by repeat (first | (with_reducible first | exact HB.out | apply below_alloc | apply pw_below_drewN | apply below_drew1) | exact HB.out)))); have n1_ := Aside0.mk (below_step (by repeat (first | (with_reducible first | exact HB.out | apply below_alloc | apply pw_below_drewN | apply below_drew1) | exact HB.out)) hb); clear HB; have HO198 := n0_; have HB := n1_; clear n0_ n1_; (try clear hb); (try clear hb2); (try clear hk); (try clear hi); (try clear ho0)) | ((with_reducible refine gate_callee (f := 18) rfl ?_); refine goesL_ (some 49) rfl rfl Tryd.func18 (by kernel_rfl) rfl #[] rfl (by (try simp only [List.map_toArray, List.map_cons, List.map_nil]); first | done | rfl | (simp only [List.length_drop, List.length_take]; rfl)) ?_; (with_reducible refine (railplanlaw3_awake.calls k2  true _ ?side1 A16.out).mono ?_); (case side1 => exact ⟨hL_.out.below (by repeat (first | (with_reducible first | exact HB.out | apply below_alloc | apply pw_below_drewN | apply below_drew1) | exact HB.out))⟩); rintro e w20 ⟨rfl, hb⟩; refine ⟨_, rfl, ?_⟩; have n0_ := Aside0.mk (Kd.S_below (by (with_reducible repeat (first | apply Kd.S_alloc | apply Kd.S_drewN | apply Kd.S_drew)); exact HO198.out) hb); have n1_ := Aside0.mk (below_step (by repeat (first | (with_reducible first | exact HB.out | apply below_alloc | apply pw_below_drewN | apply below_drew1) | exact HB.out)) hb); clear HO198; clear HB; have HO198 := n0_; have HB := n1_; clear n0_ n1_; (try clear hb); (try clear hb2); (try clear hk); (try clear hi)))
                            go_ret
                            exact ⟨by first | rfl | (simp [errW_none, errW_some] <;> rfl) | (simp only [← hji11]; first | rfl | (simp [errW_none, errW_some] <;> rfl)) | (simp [*, errW_none, errW_some] <;> rfl), by repeat (first | (with_reducible first | exact HB.out | apply below_alloc | apply pw_below_drewN | apply below_drew1) | exact HB.out)⟩
                          · rw [if_neg c18] at H
                            have c18b0 : (t196 == 7) = false := beq_eq_false_iff_ne.mpr c18
                            have c18b1 : (t196 != 7) = true := bne_iff_ne.mpr c18
                            obtain rfl := Option.some.inj H
                            exact absurd hr_.out (by decide)
                        · replace c17 := Bool.eq_false_iff.mpr c17
                          subst c17
                          have H1 : (some false) = some r := by rw [if_neg (show ¬ (false = true) by decide)] at H; exact H
                          clear H
                          have H := H1
                          clear H1
                          obtain rfl := Option.some.inj H
                          exact absurd hr_.out (by decide)
                      · rw [if_neg c14] at H
                        exact absurd H (by simp)
                    · rw [if_neg c13] at H
                      exact absurd H (by simp)
                  · rw [if_neg c12] at H
                    exact absurd H (by simp)
                · rw [if_neg c10] at H
                  exact absurd H (by simp)
              · rw [if_neg c9] at H
                have c9b0 : decide (64 < t193) = false := decide_eq_false c9
                clear c9
                replace H := Option.bind_eq_some_iff.mp H
                obtain ⟨⟨t200, t201, t202⟩, A210, H⟩ := H
                replace H : ((railplanlaw3_awake.f k2).bind fun t205 => (if t205 = true then (if t202 = 0 then (if t201 = 0 then (if t193 = 0 then (if (t200.length : Int) = 0 then (some true) else (if (t200.length : Int) = 1 then (if 0 < (t200.length : Int) then (some (((rd_L3 t200 0).length : Int) == t193)) else (none)) else (some false))) else (if (t200.length : Int) = 1 then (if 0 < (t200.length : Int) then (some (((rd_L3 t200 0).length : Int) == t193)) else (none)) else (some false))) else (some false)) else (some false)) else (some false))) = some r := H
                have A21 := Aside0.mk A210
                clear A210
                replace H := Option.bind_eq_some_iff.mp H
                obtain ⟨t205, A220, H⟩ := H
                replace H : (if t205 = true then (if t202 = 0 then (if t201 = 0 then (if t193 = 0 then (if (t200.length : Int) = 0 then (some true) else (if (t200.length : Int) = 1 then (if 0 < (t200.length : Int) then (some (((rd_L3 t200 0).length : Int) == t193)) else (none)) else (some false))) else (if (t200.length : Int) = 1 then (if 0 < (t200.length : Int) then (some (((rd_L3 t200 0).length : Int) == t193)) else (none)) else (some false))) else (some false)) else (some false)) else (some false)) = some r := H
                have A22 := Aside0.mk A220
                clear A220
                by_cases c23 : t205 = true
                · subst c23
                  have H1 : (if t202 = 0 then (if t201 = 0 then (if t193 = 0 then (if (t200.length : Int) = 0 then (some true) else (if (t200.length : Int) = 1 then (if 0 < (t200.length : Int) then (some (((rd_L3 t200 0).length : Int) == t193)) else (none)) else (some false))) else (if (t200.length : Int) = 1 then (if 0 < (t200.length : Int) then (some (((rd_L3 t200 0).length : Int) == t193)) else (none)) else (some false))) else (some false)) else (some false)) = some r := by rw [if_pos rfl] at H; exact H
                  clear H
                  have H := H1
                  clear H1
                  by_cases c24 : t202 = 0
                  · rw [if_pos c24] at H
                    have c24b0 : (t202 == 0) = true := beq_iff_eq.mpr c24
                    have c24b1 : (t202 != 0) = false := bne_eq_false_iff_eq.mpr c24
                    clear c24
                    by_cases c25 : t201 = 0
                    · rw [if_pos c25] at H
                      have c25b0 : (t201 == 0) = true := beq_iff_eq.mpr c25
                      have c25b1 : (t201 != 0) = false := bne_eq_false_iff_eq.mpr c25
                      clear c25
                      by_cases c26 : t193 = 0
                      · rw [if_pos c26] at H
                        have c26b0 : (t193 == 0) = true := beq_iff_eq.mpr c26
                        have c26b1 : (t193 != 0) = false := bne_eq_false_iff_eq.mpr c26
                        clear c26
                        by_cases c27 : (t200.length : Int) = 0
                        · rw [if_pos c27] at H
                          have c27b0 : ((t200.length : Int) == 0) = true := beq_iff_eq.mpr c27
                          have c27b1 : ((t200.length : Int) != 0) = false := bne_eq_false_iff_eq.mpr c27
                          clear c27
                          obtain rfl := Option.some.inj H
                          simp only [Option.some.injEq, Prod.mk.injEq] at H
                          obtain ⟨rfl⟩ := H
                          go_wp2_with (first | ((with_reducible refine gate_callee (f := 13) rfl ?_); refine goesL_ (some 64) rfl rfl Tryd.func13 (by kernel_rfl) rfl #[.string x7_2] rfl (by (try simp only [List.map_toArray, List.map_cons, List.map_nil]); first | done | rfl | (simp only [List.length_drop, List.length_take]; rfl)) ?_; (with_reducible refine (words_Lines.calls k2 x7_2 t200 t201 t202 _ ?side1 A21.out).mono ?_); (case side1 => exact ⟨hL_.out.below (by repeat (first | (with_reducible first | exact HB.out | apply below_alloc | apply pw_below_drewN | apply below_drew1) | exact HB.out))⟩); rintro e w28 ⟨v203, rfl, ho0, hb⟩; refine ⟨_, rfl, ?_⟩; have n0_ := Aside0.mk (Kd.S_lower ho0 (below_size (by repeat (first | (with_reducible first | exact HB.out | apply below_alloc | apply pw_below_drewN | apply below_drew1) | exact HB.out)))); have n1_ := Aside0.mk (below_step (by repeat (first | (with_reducible first | exact HB.out | apply below_alloc | apply pw_below_drewN | apply below_drew1) | exact HB.out)) hb); clear HB; have HO204 := n0_; have HB := n1_; clear n0_ n1_; (try clear hb); (try clear hb2); (try clear hk); (try clear hi); (try clear ho0)) | ((with_reducible refine gate_callee (f := 18) rfl ?_); refine goesL_ (some 68) rfl rfl Tryd.func18 (by kernel_rfl) rfl #[] rfl (by (try simp only [List.map_toArray, List.map_cons, List.map_nil]); first | done | rfl | (simp only [List.length_drop, List.length_take]; rfl)) ?_; (with_reducible refine (railplanlaw3_awake.calls k2  true _ ?side1 A22.out).mono ?_); (case side1 => exact ⟨hL_.out.below (by repeat (first | (with_reducible first | exact HB.out | apply below_alloc | apply pw_below_drewN | apply below_drew1) | exact HB.out))⟩); rintro e w29 ⟨rfl, hb⟩; refine ⟨_, rfl, ?_⟩; have n0_ := Aside0.mk (Kd.S_below (by (with_reducible repeat (first | apply Kd.S_alloc | apply Kd.S_drewN | apply Kd.S_drew)); exact HO204.out) hb); have n1_ := Aside0.mk (below_step (by repeat (first | (with_reducible first | exact HB.out | apply below_alloc | apply pw_below_drewN | apply below_drew1) | exact HB.out)) hb); clear HO204; clear HB; have HO204 := n0_; have HB := n1_; clear n0_ n1_; (try clear hb); (try clear hb2); (try clear hk); (try clear hi); obtain ⟨Ao30, co30, eo30⟩ := Kd.S_slice HO204.out; subst eo30))
                          go_ret
                          exact ⟨by first | rfl | (simp [errW_none, errW_some] <;> rfl) | (simp [*, errW_none, errW_some] <;> rfl), by repeat (first | (with_reducible first | exact HB.out | apply below_alloc | apply pw_below_drewN | apply below_drew1) | exact HB.out)⟩
                        · rw [if_neg c27] at H
                          have c27b0 : ((t200.length : Int) == 0) = false := beq_eq_false_iff_ne.mpr c27
                          have c27b1 : ((t200.length : Int) != 0) = true := bne_iff_ne.mpr c27
                          have c27b2 : ¬ (t200 = []) := fun h_ => c27 (by rw [h_]; rfl)
                          by_cases c31 : (t200.length : Int) = 1
                          · rw [if_pos c31] at H
                            have c31b0 : ((t200.length : Int) == 1) = true := beq_iff_eq.mpr c31
                            have c31b1 : ((t200.length : Int) != 1) = false := bne_eq_false_iff_eq.mpr c31
                            clear c31
                            by_cases c32 : 0 < (t200.length : Int)
                            · rw [if_pos c32] at H
                              have c32b0 : decide (0 < (t200.length : Int)) = true := decide_eq_true c32
                              have c32b1 : decide (0 < t200.length) = true := decide_eq_true (by omega)
                              clear c32
                              obtain rfl := Option.some.inj H
                              simp only [Option.some.injEq, Prod.mk.injEq] at H
                              obtain ⟨rfl⟩ := H
                              go_wp2_with (first | ((with_reducible refine gate_callee (f := 13) rfl ?_); refine goesL_ (some 64) rfl rfl Tryd.func13 (by kernel_rfl) rfl #[.string x7_2] rfl (by (try simp only [List.map_toArray, List.map_cons, List.map_nil]); first | done | rfl | (simp only [List.length_drop, List.length_take]; rfl)) ?_; (with_reducible refine (words_Lines.calls k2 x7_2 t200 t201 t202 _ ?side1 A21.out).mono ?_); (case side1 => exact ⟨hL_.out.below (by repeat (first | (with_reducible first | exact HB.out | apply below_alloc | apply pw_below_drewN | apply below_drew1) | exact HB.out))⟩); rintro e w33 ⟨v203, rfl, ho0, hb⟩; refine ⟨_, rfl, ?_⟩; have n0_ := Aside0.mk (Kd.S_lower ho0 (below_size (by repeat (first | (with_reducible first | exact HB.out | apply below_alloc | apply pw_below_drewN | apply below_drew1) | exact HB.out)))); have n1_ := Aside0.mk (below_step (by repeat (first | (with_reducible first | exact HB.out | apply below_alloc | apply pw_below_drewN | apply below_drew1) | exact HB.out)) hb); clear HB; have HO204 := n0_; have HB := n1_; clear n0_ n1_; (try clear hb); (try clear hb2); (try clear hk); (try clear hi); (try clear ho0)) | ((with_reducible refine gate_callee (f := 18) rfl ?_); refine goesL_ (some 68) rfl rfl Tryd.func18 (by kernel_rfl) rfl #[] rfl (by (try simp only [List.map_toArray, List.map_cons, List.map_nil]); first | done | rfl | (simp only [List.length_drop, List.length_take]; rfl)) ?_; (with_reducible refine (railplanlaw3_awake.calls k2  true _ ?side1 A22.out).mono ?_); (case side1 => exact ⟨hL_.out.below (by repeat (first | (with_reducible first | exact HB.out | apply below_alloc | apply pw_below_drewN | apply below_drew1) | exact HB.out))⟩); rintro e w34 ⟨rfl, hb⟩; refine ⟨_, rfl, ?_⟩; have n0_ := Aside0.mk (Kd.S_below (by (with_reducible repeat (first | apply Kd.S_alloc | apply Kd.S_drewN | apply Kd.S_drew)); exact HO204.out) hb); have n1_ := Aside0.mk (below_step (by repeat (first | (with_reducible first | exact HB.out | apply below_alloc | apply pw_below_drewN | apply below_drew1) | exact HB.out)) hb); clear HO204; clear HB; have HO204 := n0_; have HB := n1_; clear n0_ n1_; (try clear hb); (try clear hb2); (try clear hk); (try clear hi); obtain ⟨Ao35, co35, eo35⟩ := Kd.S_slice HO204.out; subst eo35; have p206 : 0 ≤ (0 : Int) := (by omega); have q206 : 0 < (t200.length : Int) := of_decide_eq_true (by first | (with_reducible assumption) | assumption); obtain ⟨ad206, A206_0, c206_0, e206, hx206_0, hl206_0, hi206_0⟩ := at_L3 (Kd.S_reads' HO204.out).2.2 0 p206 q206; cases e206; obtain ⟨ce206, hce206, hMe206, hcc206⟩ := Kd.S_get HO204.out [] 0 p206 (by first | exact q206 | exact of_decide_eq_true (by first | (with_reducible assumption) | assumption) | (have e_ := (Kd.S_reads' HO204.out).1; omega)); obtain ⟨ve206_0, rfl, ge206_0⟩ := hMe206; have hv206_0 := hcc206 0 _ rfl; rw [Nat.add_zero, show ((Kd.slice 32 k32)).sz = 1 from rfl, Nat.mul_one] at hv206_0; replace hv206_0 := Option.some.inj (hv206_0.symm.trans hx206_0); rw [hv206_0] at ge206_0; have HL206_0 := Aside0.mk (show Kd.R k32 32 _ _ _ _ (rd_L3 t200 0) from ge206_0); clear hv206_0 ge206_0; clear hcc206 hce206; have qi206 : (0 < t200.length) = True := eq_true (by omega); (try rw [show ((0 : Int)).toNat = 0 from rfl] at hx206_0); (try rw [Addr.add_zero'] at hx206_0); have HR206_0 := Aside0.mk hi206_0; have HC206_0 := Aside0.mk hl206_0; clear hi206_0 hl206_0; replace p206 := eq_true p206; replace q206 := eq_true q206))
                              go_ret
                              exact ⟨by first | rfl | (simp [errW_none, errW_some] <;> rfl) | (simp [*, errW_none, errW_some] <;> rfl), by repeat (first | (with_reducible first | exact HB.out | apply below_alloc | apply pw_below_drewN | apply below_drew1) | exact HB.out)⟩
                            · rw [if_neg c32] at H
                              exact absurd H (by simp)
                          · rw [if_neg c31] at H
                            have c31b0 : ((t200.length : Int) == 1) = false := beq_eq_false_iff_ne.mpr c31
                            have c31b1 : ((t200.length : Int) != 1) = true := bne_iff_ne.mpr c31
                            obtain rfl := Option.some.inj H
                            exact absurd hr_.out (by decide)
                      · rw [if_neg c26] at H
                        have c26b0 : (t193 == 0) = false := beq_eq_false_iff_ne.mpr c26
                        have c26b1 : (t193 != 0) = true := bne_iff_ne.mpr c26
                        by_cases c36 : (t200.length : Int) = 1
                        · rw [if_pos c36] at H
                          have c36b0 : ((t200.length : Int) == 1) = true := beq_iff_eq.mpr c36
                          have c36b1 : ((t200.length : Int) != 1) = false := bne_eq_false_iff_eq.mpr c36
                          clear c36
                          by_cases c37 : 0 < (t200.length : Int)
                          · rw [if_pos c37] at H
                            have c37b0 : decide (0 < (t200.length : Int)) = true := decide_eq_true c37
                            have c37b1 : decide (0 < t200.length) = true := decide_eq_true (by omega)
                            clear c37
                            obtain rfl := Option.some.inj H
                            simp only [Option.some.injEq, Prod.mk.injEq] at H
                            obtain ⟨rfl⟩ := H
                            go_wp2_with (first | ((with_reducible refine gate_callee (f := 13) rfl ?_); refine goesL_ (some 64) rfl rfl Tryd.func13 (by kernel_rfl) rfl #[.string x7_2] rfl (by (try simp only [List.map_toArray, List.map_cons, List.map_nil]); first | done | rfl | (simp only [List.length_drop, List.length_take]; rfl)) ?_; (with_reducible refine (words_Lines.calls k2 x7_2 t200 t201 t202 _ ?side1 A21.out).mono ?_); (case side1 => exact ⟨hL_.out.below (by repeat (first | (with_reducible first | exact HB.out | apply below_alloc | apply pw_below_drewN | apply below_drew1) | exact HB.out))⟩); rintro e w38 ⟨v203, rfl, ho0, hb⟩; refine ⟨_, rfl, ?_⟩; have n0_ := Aside0.mk (Kd.S_lower ho0 (below_size (by repeat (first | (with_reducible first | exact HB.out | apply below_alloc | apply pw_below_drewN | apply below_drew1) | exact HB.out)))); have n1_ := Aside0.mk (below_step (by repeat (first | (with_reducible first | exact HB.out | apply below_alloc | apply pw_below_drewN | apply below_drew1) | exact HB.out)) hb); clear HB; have HO204 := n0_; have HB := n1_; clear n0_ n1_; (try clear hb); (try clear hb2); (try clear hk); (try clear hi); (try clear ho0)) | ((with_reducible refine gate_callee (f := 18) rfl ?_); refine goesL_ (some 68) rfl rfl Tryd.func18 (by kernel_rfl) rfl #[] rfl (by (try simp only [List.map_toArray, List.map_cons, List.map_nil]); first | done | rfl | (simp only [List.length_drop, List.length_take]; rfl)) ?_; (with_reducible refine (railplanlaw3_awake.calls k2  true _ ?side1 A22.out).mono ?_); (case side1 => exact ⟨hL_.out.below (by repeat (first | (with_reducible first | exact HB.out | apply below_alloc | apply pw_below_drewN | apply below_drew1) | exact HB.out))⟩); rintro e w39 ⟨rfl, hb⟩; refine ⟨_, rfl, ?_⟩; have n0_ := Aside0.mk (Kd.S_below (by (with_reducible repeat (first | apply Kd.S_alloc | apply Kd.S_drewN | apply Kd.S_drew)); exact HO204.out) hb); have n1_ := Aside0.mk (below_step (by repeat (first | (with_reducible first | exact HB.out | apply below_alloc | apply pw_below_drewN | apply below_drew1) | exact HB.out)) hb); clear HO204; clear HB; have HO204 := n0_; have HB := n1_; clear n0_ n1_; (try clear hb); (try clear hb2); (try clear hk); (try clear hi); obtain ⟨Ao40, co40, eo40⟩ := Kd.S_slice HO204.out; subst eo40; have p207 : 0 ≤ (0 : Int) := (by omega); have q207 : 0 < (t200.length : Int) := of_decide_eq_true (by first | (with_reducible assumption) | assumption); obtain ⟨ad207, A207_0, c207_0, e207, hx207_0, hl207_0, hi207_0⟩ := at_L3 (Kd.S_reads' HO204.out).2.2 0 p207 q207; cases e207; obtain ⟨ce207, hce207, hMe207, hcc207⟩ := Kd.S_get HO204.out [] 0 p207 (by first | exact q207 | exact of_decide_eq_true (by first | (with_reducible assumption) | assumption) | (have e_ := (Kd.S_reads' HO204.out).1; omega)); obtain ⟨ve207_0, rfl, ge207_0⟩ := hMe207; have hv207_0 := hcc207 0 _ rfl; rw [Nat.add_zero, show ((Kd.slice 32 k32)).sz = 1 from rfl, Nat.mul_one] at hv207_0; replace hv207_0 := Option.some.inj (hv207_0.symm.trans hx207_0); rw [hv207_0] at ge207_0; have HL207_0 := Aside0.mk (show Kd.R k32 32 _ _ _ _ (rd_L3 t200 0) from ge207_0); clear hv207_0 ge207_0; clear hcc207 hce207; have qi207 : (0 < t200.length) = True := eq_true (by omega); (try rw [show ((0 : Int)).toNat = 0 from rfl] at hx207_0); (try rw [Addr.add_zero'] at hx207_0); have HR207_0 := Aside0.mk hi207_0; have HC207_0 := Aside0.mk hl207_0; clear hi207_0 hl207_0; replace p207 := eq_true p207; replace q207 := eq_true q207))
                            go_ret
                            exact ⟨by first | rfl | (simp [errW_none, errW_some] <;> rfl) | (simp [*, errW_none, errW_some] <;> rfl), by repeat (first | (with_reducible first | exact HB.out | apply below_alloc | apply pw_below_drewN | apply below_drew1) | exact HB.out)⟩
                          · rw [if_neg c37] at H
                            exact absurd H (by simp)
                        · rw [if_neg c36] at H
                          have c36b0 : ((t200.length : Int) == 1) = false := beq_eq_false_iff_ne.mpr c36
                          have c36b1 : ((t200.length : Int) != 1) = true := bne_iff_ne.mpr c36
                          obtain rfl := Option.some.inj H
                          exact absurd hr_.out (by decide)
                    · rw [if_neg c25] at H
                      have c25b0 : (t201 == 0) = false := beq_eq_false_iff_ne.mpr c25
                      have c25b1 : (t201 != 0) = true := bne_iff_ne.mpr c25
                      obtain rfl := Option.some.inj H
                      exact absurd hr_.out (by decide)
                  · rw [if_neg c24] at H
                    have c24b0 : (t202 == 0) = false := beq_eq_false_iff_ne.mpr c24
                    have c24b1 : (t202 != 0) = true := bne_iff_ne.mpr c24
                    obtain rfl := Option.some.inj H
                    exact absurd hr_.out (by decide)
                · replace c23 := Bool.eq_false_iff.mpr c23
                  subst c23
                  have H1 : (some false) = some r := by rw [if_neg (show ¬ (false = true) by decide)] at H; exact H
                  clear H
                  have H := H1
                  clear H1
                  obtain rfl := Option.some.inj H
                  exact absurd hr_.out (by decide)

def railplanlaw3_WordsLimits.Pure : Prop := ∀ (a0 : Int) (a1 : Int) (a2 : ByteArray), (fun x : Int => (Lit.int .i64 x).wf = true) a0 → (fun x : Int => (Lit.int .u8 x).wf = true) a1 → (fun x : ByteArray => x.size ≤ 140737488351232) a2 → ∃ k, railplanlaw3_WordsLimits.f k a0 a1 a2 = some true

end Go.Proofs.YtnmbljpifadipaaDoor.X
