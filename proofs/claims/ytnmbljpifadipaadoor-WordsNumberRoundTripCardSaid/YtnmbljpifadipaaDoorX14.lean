/- Written by a program of this claim. Proved: each Go function named below, called with any arguments at which its Lean function answers, returns that answer; or, of a law, its given statement. -/
import Derived.Test.YtnmbljpifadipaaDoorX0
import Derived.Test.YtnmbljpifadipaaDoorX3
import Derived.Test.YtnmbljpifadipaaDoorX8
import Derived.Test.YtnmbljpifadipaaDoorQLaid
namespace Go.Proofs.YtnmbljpifadipaaDoor.X
open Go.RowKit Go.Proofs.YtnmbljpifadipaaDoorW Go.Proofs.YtnmbljpifadipaaDoorW.PrintWords Go.Proofs.YtnmbljpifadipaaDoorW.PrintLast Go.Proofs.YtnmbljpifadipaaDoorW.PrintMore
attribute [local go_sem] max2_int min2_int max_two min_two max_three min_three max_four min_four   -- for this text's walks alone
set_option linter.unusedVariables false
set_option linter.unusedSimpArgs false

/-! ### railplanlaw3_WordsNumberRoundTrip: function 5 -/
def railplanlaw3_WordsNumberRoundTrip.j0 : Nat → Int → Int → Bool → Bool → Option (Bool)
  | 0, _, _, _, _ => none
  | k + 1, x0, x5, x6, x22 => if x22 = true then ((railplanlaw3_awake.f k).bind fun t156 => (if t156 = true then (if x6 = true then (some false) else (some (x5 == 0))) else (some false))) else ((railplanlaw3_awake.f k).bind fun t157 => (if t157 = true then (if x6 = true then (some (x5 == x0)) else (some false)) else (some false)))
def railplanlaw3_WordsNumberRoundTrip.f (k : Nat) (a0 : Int) (a1 : Int) : Option (Bool) := if 0 ≤ (Int.tmod a1 64) then ((railplanref1_Decimal.f k (shr .i64 a0 (Int.tmod a1 64))).bind fun t153 => ((words_Number.f t153).bind fun bt154 => (if (shr .i64 a0 (Int.tmod a1 64)) > 1099511627776 then (railplanlaw3_WordsNumberRoundTrip.j0 k (shr .i64 a0 (Int.tmod a1 64)) bt154.1 bt154.2 true) else (railplanlaw3_WordsNumberRoundTrip.j0 k (shr .i64 a0 (Int.tmod a1 64)) bt154.1 bt154.2 (decide ((shr .i64 a0 (Int.tmod a1 64)) < (-1099511627776))))))) else (none)
theorem railplanlaw3_WordsNumberRoundTrip.mono_l : ∀ k, (∀ y0 y1 y2 y3, LeO (railplanlaw3_WordsNumberRoundTrip.j0 k y0 y1 y2 y3) (railplanlaw3_WordsNumberRoundTrip.j0 (k + 1) y0 y1 y2 y3))
  | 0 => fun _ _ _ _ r h => by simp [railplanlaw3_WordsNumberRoundTrip.j0] at h
  | k + 1 => by
    have ih0 := railplanlaw3_WordsNumberRoundTrip.mono_l k
    · intro y0 y1 y2 y3
      unfold railplanlaw3_WordsNumberRoundTrip.j0
      repeat' first
      | (with_reducible exact ih0 _ _ _ _)
      | (with_reducible exact railplanlaw3_awake.mono _)
      | (with_reducible exact railplanref1_Decimal.mono _ _)
      | (with_reducible exact LeO.refl _)
      | (with_reducible exact LeO.none _)
      | (with_reducible refine LeO.ite ?_ ?_)
      | (with_reducible refine LeO.bind ?_ (fun _ => ?_))
      | exact ih0 _ _ _ _
      | exact railplanlaw3_awake.mono _
      | exact railplanref1_Decimal.mono _ _
      | exact LeO.none _
      | refine LeO.ite ?_ ?_
      | refine LeO.bind ?_ (fun _ => ?_)
theorem railplanlaw3_WordsNumberRoundTrip.mono : ∀ a0 a1 k, LeO (railplanlaw3_WordsNumberRoundTrip.f k a0 a1) (railplanlaw3_WordsNumberRoundTrip.f (k + 1) a0 a1) := by
  intro a0 a1 k
  have ih0 := railplanlaw3_WordsNumberRoundTrip.mono_l k
  unfold railplanlaw3_WordsNumberRoundTrip.f
  repeat' first
      | (with_reducible exact ih0 _ _ _ _)
      | (with_reducible exact railplanlaw3_awake.mono _)
      | (with_reducible exact railplanref1_Decimal.mono _ _)
      | (with_reducible exact LeO.refl _)
      | (with_reducible exact LeO.none _)
      | (with_reducible refine LeO.ite ?_ ?_)
      | (with_reducible refine LeO.bind ?_ (fun _ => ?_))
      | exact ih0 _ _ _ _
      | exact railplanlaw3_awake.mono _
      | exact railplanref1_Decimal.mono _ _
      | exact LeO.none _
      | refine LeO.ite ?_ ?_
      | refine LeO.bind ?_ (fun _ => ?_)
set_option maxHeartbeats 8000000 in
set_option maxRecDepth 100000 in
theorem railplanlaw3_WordsNumberRoundTrip.calls (k : Nat) (a0 : Int) (a1 : Int) (r : Bool) (w : World) (hL_ : Aside0 (Laid w)) (hr_ : Aside0 (r = true)) (h : railplanlaw3_WordsNumberRoundTrip.f k a0 a1 = some r) :
    Calls Tryd.prog 5 #[.int .i64 a0, .int .u8 a1] w fun e w' => e = .returned (.bool r) ∧ Below w.heap.size w w' := by
  have HB := Aside0.mk (Below.refl w.heap.size w)
  have H : (if 0 ≤ (Int.tmod a1 64) then ((railplanref1_Decimal.f k (shr .i64 a0 (Int.tmod a1 64))).bind fun t153 => ((words_Number.f t153).bind fun bt154 => (if (shr .i64 a0 (Int.tmod a1 64)) > 1099511627776 then (railplanlaw3_WordsNumberRoundTrip.j0 k (shr .i64 a0 (Int.tmod a1 64)) bt154.1 bt154.2 true) else (railplanlaw3_WordsNumberRoundTrip.j0 k (shr .i64 a0 (Int.tmod a1 64)) bt154.1 bt154.2 (decide ((shr .i64 a0 (Int.tmod a1 64)) < (-1099511627776))))))) else (none)) = some r := h
  clear h
  obtain ⟨ji3, hji3⟩ : ∃ j_ : Int, (Int.tmod a1 64) = j_ := ⟨_, rfl⟩
  replace H : (if 0 ≤ (ji3) then ((railplanref1_Decimal.f k (shr .i64 a0 (ji3))).bind fun t153 => ((words_Number.f t153).bind fun bt154 => (if (shr .i64 a0 (ji3)) > 1099511627776 then (railplanlaw3_WordsNumberRoundTrip.j0 k (shr .i64 a0 (ji3)) bt154.1 bt154.2 true) else (railplanlaw3_WordsNumberRoundTrip.j0 k (shr .i64 a0 (ji3)) bt154.1 bt154.2 (decide ((shr .i64 a0 (ji3)) < (-1099511627776))))))) else (none)) = some r := by first | (rw [hji3] at H; exact H) | (simp only [hji3] at H ⊢; exact H)
  by_cases c4 : 0 ≤ (ji3)
  · rw [if_pos c4] at H
    have c4b0 := eq_true c4
    have c4b1 : decide (0 ≤ (ji3)) = true := decide_eq_true c4
    clear c4
    obtain ⟨ji5, hji5⟩ : ∃ j_ : Int, (shr .i64 a0 (ji3)) = j_ := ⟨_, rfl⟩
    replace H : ((railplanref1_Decimal.f k (ji5)).bind fun t153 => ((words_Number.f t153).bind fun bt154 => (if (ji5) > 1099511627776 then (railplanlaw3_WordsNumberRoundTrip.j0 k ji5 bt154.1 bt154.2 true) else (railplanlaw3_WordsNumberRoundTrip.j0 k ji5 bt154.1 bt154.2 (decide ((ji5) < (-1099511627776))))))) = some r := by first | (rw [hji5] at H; exact H) | (simp only [hji5] at H ⊢; exact H)
    have hji5_ : (a0 / 2 ^ min (ji3).toNat 64) = ji5 := hji5
    have hji5z : (ji3) ≤ 64 → (a0 / 2 ^ (ji3).toNat) = ji5 := shr_small hji5
    replace H := Option.bind_eq_some_iff.mp H
    obtain ⟨t153, A60, H⟩ := H
    replace H : ((words_Number.f t153).bind fun bt154 => (if (ji5) > 1099511627776 then (railplanlaw3_WordsNumberRoundTrip.j0 k ji5 bt154.1 bt154.2 true) else (railplanlaw3_WordsNumberRoundTrip.j0 k ji5 bt154.1 bt154.2 (decide ((ji5) < (-1099511627776)))))) = some r := H
    have A6 := Aside0.mk A60
    clear A60
    replace H := Option.bind_eq_some_iff.mp H
    obtain ⟨⟨t154, t155⟩, A70, H⟩ := H
    replace H : (if (ji5) > 1099511627776 then (railplanlaw3_WordsNumberRoundTrip.j0 k ji5 t154 t155 true) else (railplanlaw3_WordsNumberRoundTrip.j0 k ji5 t154 t155 (decide ((ji5) < (-1099511627776))))) = some r := H
    have A7 := Aside0.mk A70
    clear A70
    have HC8 := Aside0.mk H
    clear H
    go_enter Tryd.func5, Tryd.ntmps5
    go_upto_region 3 with (first | ((with_reducible refine gate_callee (f := 21) rfl ?_); refine goesL_ (some 13) rfl rfl Tryd.func21 (by kernel_rfl) rfl #[.int .i64 ji5] rfl (by (try simp only [List.map_toArray, List.map_cons, List.map_nil]); first | done | (simp only [hji5]; rfl) | rfl | (simp only [List.length_drop, List.length_take]; rfl)) ?_; (with_reducible refine (railplanref1_Decimal.calls k ji5 t153 _ A6.out).mono ?_); rintro e w' ⟨rfl, ⟨nd, rfl⟩⟩; refine ⟨_, rfl, ?_⟩) | ((with_reducible refine gate_callee (f := 14) rfl ?_); refine goesL_ (some 14) rfl rfl Tryd.func14 (by kernel_rfl) rfl #[.string t153] rfl (by (try simp only [List.map_toArray, List.map_cons, List.map_nil]); first | done | rfl | (simp only [List.length_drop, List.length_take]; rfl)) ?_; (with_reducible refine (words_Number.calls t153 t154 t155 _ ?side1 A7.out).mono ?_); (case side1 => exact ⟨hL_.out.below (by repeat (first | (with_reducible first | exact HB.out | apply below_alloc | apply pw_below_drewN | apply below_drew1) | exact HB.out))⟩); rintro e w9 ⟨rfl, hb⟩; refine ⟨_, rfl, ?_⟩; have n0_ := Aside0.mk (below_step (by repeat (first | (with_reducible first | exact HB.out | apply below_alloc | apply pw_below_drewN | apply below_drew1) | exact HB.out)) hb); clear HB; have HB := n0_; clear n0_; (try clear hb); (try clear hb2); (try clear hk); (try clear hi)))
    (try simp only [Act.put, List.setIfInBounds_toArray, List.set_cons_zero, List.set_cons_succ])
    go_cut [22] (fun v22 wc => ∃ (kq : Nat) (x22_7 : Bool), v22 = .bool x22_7 ∧ Aside0 (railplanlaw3_WordsNumberRoundTrip.j0 kq ji5 t154 t155 x22_7 = some r) ∧ Aside0 (kq ≤ k) ∧ Aside0 (Below w.heap.size w wc))
    case first =>
      have H := HC8.out
      clear HC8
      by_cases c10 : (ji5) > 1099511627776
      · rw [if_pos c10] at H
        have c10b0 : decide (1099511627776 < (ji5)) = true := decide_eq_true c10
        clear c10
        (first | rw [c10b0] | (simp only [i64_w, i32_w]; rw [c10b0]) | rw [c10b1] | skip)
        have H' := Aside0.mk H
        clear H
        go_wp2
        go_meet
        case rel => exact ⟨_, (true), (by first | rfl | (simp; done) | (simp [*]; done)), H', ⟨by first | omega | exact Nat.le_refl _⟩, ⟨by repeat (first | (with_reducible first | exact HB.out | apply below_alloc | apply pw_below_drewN | apply below_drew1) | exact HB.out)⟩⟩
      · rw [if_neg c10] at H
        have c10b0 : decide (1099511627776 < (ji5)) = false := decide_eq_false c10
        clear c10
        (first | rw [c10b0] | (simp only [i64_w, i32_w]; rw [c10b0]) | rw [c10b1] | skip)
        have H' := Aside0.mk H
        clear H
        go_wp2
        go_meet
        case rel => exact ⟨_, (decide ((ji5) < (-1099511627776))), (by first | rfl | (simp; done) | (simp only [← hji5] <;> (first | rfl | simp)) | (simp [*]; done)), H', ⟨by first | omega | exact Nat.le_refl _⟩, ⟨by repeat (first | (with_reducible first | exact HB.out | apply below_alloc | apply pw_below_drewN | apply below_drew1) | exact HB.out)⟩⟩
    case rest =>
      clear HC8
      try clear c1
      try clear c2
      try clear p2
      try clear c4
      try clear c4b0
      try clear c4b1
      try clear c5
      try clear c10
      try clear c10b0
      try clear c10b1
      obtain ⟨kq, x22_7, rfl, HA, HJ7, HB⟩ := hcut
      cases kq with
      | zero => exact absurd HA.out (by simp [railplanlaw3_WordsNumberRoundTrip.j0])
      | succ kj7 =>
        have H := HA.out
        clear HA
        simp only [railplanlaw3_WordsNumberRoundTrip.j0] at H
        by_cases c11 : x22_7 = true
        · subst c11
          have H1 : ((railplanlaw3_awake.f kj7).bind fun t156 => (if t156 = true then (if t155 = true then (some false) else (some (t154 == 0))) else (some false))) = some r := by rw [if_pos rfl] at H; exact H
          clear H
          have H := H1
          clear H1
          replace H := Option.bind_eq_some_iff.mp H
          obtain ⟨t156, A120, H⟩ := H
          replace H : (if t156 = true then (if t155 = true then (some false) else (some (t154 == 0))) else (some false)) = some r := H
          have A12 := Aside0.mk A120
          clear A120
          by_cases c13 : t156 = true
          · subst c13
            have H1 : (if t155 = true then (some false) else (some (t154 == 0))) = some r := by rw [if_pos rfl] at H; exact H
            clear H
            have H := H1
            clear H1
            by_cases c14 : t155 = true
            · subst c14
              have H1 : (some false) = some r := by rw [if_pos rfl] at H; exact H
              clear H
              have H := H1
              clear H1
              obtain rfl := Option.some.inj H
              exact absurd hr_.out (by decide)
            · replace c14 := Bool.eq_false_iff.mpr c14
              subst c14
              have H1 : (some (t154 == 0)) = some r := by rw [if_neg (show ¬ (false = true) by decide)] at H; exact H
              clear H
              have H := H1
              clear H1
              obtain rfl := Option.some.inj H
              simp only [Option.some.injEq, Prod.mk.injEq] at H
              obtain ⟨rfl⟩ := H
              go_wp2_with (first | ((with_reducible refine gate_callee (f := 18) rfl ?_); refine goesL_ (some 23) rfl rfl Tryd.func18 (by kernel_rfl) rfl #[] rfl (by (try simp only [List.map_toArray, List.map_cons, List.map_nil]); first | done | rfl | (simp only [List.length_drop, List.length_take]; rfl)) ?_; (with_reducible refine (railplanlaw3_awake.calls kj7  true _ ?side1 A12.out).mono ?_); (case side1 => exact ⟨hL_.out.below (by repeat (first | (with_reducible first | exact HB.out | apply below_alloc | apply pw_below_drewN | apply below_drew1) | exact HB.out))⟩); rintro e w15 ⟨rfl, hb⟩; refine ⟨_, rfl, ?_⟩; have n0_ := Aside0.mk (below_step (by repeat (first | (with_reducible first | exact HB.out | apply below_alloc | apply pw_below_drewN | apply below_drew1) | exact HB.out)) hb); clear HB; have HB := n0_; clear n0_; (try clear hb); (try clear hb2); (try clear hk); (try clear hi)))
              go_ret
              exact ⟨by first | rfl | (simp [errW_none, errW_some] <;> rfl) | (simp only [← hji3, ← hji5]; first | rfl | (simp [errW_none, errW_some] <;> rfl)) | (simp [*, errW_none, errW_some] <;> rfl), by repeat (first | (with_reducible first | exact HB.out | apply below_alloc | apply pw_below_drewN | apply below_drew1) | exact HB.out)⟩
          · replace c13 := Bool.eq_false_iff.mpr c13
            subst c13
            have H1 : (some false) = some r := by rw [if_neg (show ¬ (false = true) by decide)] at H; exact H
            clear H
            have H := H1
            clear H1
            obtain rfl := Option.some.inj H
            exact absurd hr_.out (by decide)
        · replace c11 := Bool.eq_false_iff.mpr c11
          subst c11
          have H1 : ((railplanlaw3_awake.f kj7).bind fun t157 => (if t157 = true then (if t155 = true then (some (t154 == ji5)) else (some false)) else (some false))) = some r := by rw [if_neg (show ¬ (false = true) by decide)] at H; exact H
          clear H
          have H := H1
          clear H1
          replace H := Option.bind_eq_some_iff.mp H
          obtain ⟨t157, A160, H⟩ := H
          replace H : (if t157 = true then (if t155 = true then (some (t154 == ji5)) else (some false)) else (some false)) = some r := H
          have A16 := Aside0.mk A160
          clear A160
          by_cases c17 : t157 = true
          · subst c17
            have H1 : (if t155 = true then (some (t154 == ji5)) else (some false)) = some r := by rw [if_pos rfl] at H; exact H
            clear H
            have H := H1
            clear H1
            by_cases c18 : t155 = true
            · subst c18
              have H1 : (some (t154 == ji5)) = some r := by rw [if_pos rfl] at H; exact H
              clear H
              have H := H1
              clear H1
              obtain rfl := Option.some.inj H
              simp only [Option.some.injEq, Prod.mk.injEq] at H
              obtain ⟨rfl⟩ := H
              go_wp2_with (first | ((with_reducible refine gate_callee (f := 18) rfl ?_); refine goesL_ (some 32) rfl rfl Tryd.func18 (by kernel_rfl) rfl #[] rfl (by (try simp only [List.map_toArray, List.map_cons, List.map_nil]); first | done | rfl | (simp only [List.length_drop, List.length_take]; rfl)) ?_; (with_reducible refine (railplanlaw3_awake.calls kj7  true _ ?side1 A16.out).mono ?_); (case side1 => exact ⟨hL_.out.below (by repeat (first | (with_reducible first | exact HB.out | apply below_alloc | apply pw_below_drewN | apply below_drew1) | exact HB.out))⟩); rintro e w19 ⟨rfl, hb⟩; refine ⟨_, rfl, ?_⟩; have n0_ := Aside0.mk (below_step (by repeat (first | (with_reducible first | exact HB.out | apply below_alloc | apply pw_below_drewN | apply below_drew1) | exact HB.out)) hb); clear HB; have HB := n0_; clear n0_; (try clear hb); (try clear hb2); (try clear hk); (try clear hi)))
              go_ret
              exact ⟨by first | rfl | (simp [errW_none, errW_some] <;> rfl) | (simp only [← hji3, ← hji5]; first | rfl | (simp [errW_none, errW_some] <;> rfl)) | (simp [*, errW_none, errW_some] <;> rfl), by repeat (first | (with_reducible first | exact HB.out | apply below_alloc | apply pw_below_drewN | apply below_drew1) | exact HB.out)⟩
            · replace c18 := Bool.eq_false_iff.mpr c18
              subst c18
              have H1 : (some false) = some r := by rw [if_neg (show ¬ (false = true) by decide)] at H; exact H
              clear H
              have H := H1
              clear H1
              obtain rfl := Option.some.inj H
              exact absurd hr_.out (by decide)
          · replace c17 := Bool.eq_false_iff.mpr c17
            subst c17
            have H1 : (some false) = some r := by rw [if_neg (show ¬ (false = true) by decide)] at H; exact H
            clear H
            have H := H1
            clear H1
            obtain rfl := Option.some.inj H
            exact absurd hr_.out (by decide)
  · rw [if_neg c4] at H
    exact absurd H (by simp)

def railplanlaw3_WordsNumberRoundTrip.Pure : Prop := ∀ (a0 : Int) (a1 : Int), (fun x : Int => (Lit.int .i64 x).wf = true) a0 → (fun x : Int => (Lit.int .u8 x).wf = true) a1 → ∃ k, railplanlaw3_WordsNumberRoundTrip.f k a0 a1 = some true

end Go.Proofs.YtnmbljpifadipaaDoor.X
