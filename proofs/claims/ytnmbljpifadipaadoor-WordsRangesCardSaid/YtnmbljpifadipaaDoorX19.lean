/- Written by a program of this claim. Proved: each Go function named below, called with any arguments at which its Lean function answers, returns that answer; or, of a law, its given statement. -/
import Derived.Test.YtnmbljpifadipaaDoorX0
import Derived.Test.YtnmbljpifadipaaDoorX3
import Derived.Test.YtnmbljpifadipaaDoorX8
import Derived.Test.YtnmbljpifadipaaDoorX10
import Derived.Test.YtnmbljpifadipaaDoorQLaid
namespace Go.Proofs.YtnmbljpifadipaaDoor.X
open Go.RowKit Go.Proofs.YtnmbljpifadipaaDoorW Go.Proofs.YtnmbljpifadipaaDoorW.PrintWords Go.Proofs.YtnmbljpifadipaaDoorW.PrintLast Go.Proofs.YtnmbljpifadipaaDoorW.PrintMore
attribute [local go_sem] max2_int min2_int max_two min_two max_three min_three max_four min_four   -- for this text's walks alone
set_option linter.unusedVariables false
set_option linter.unusedSimpArgs false

/-! ### railplanlaw3_WordsRanges: function 10 -/
def railplanlaw3_WordsRanges.f (k : Nat) (a0 : Int) (a1 : Int) : Option (Bool) := (railplankeep_Pick.f a0 4001).bind fun t232 => ((railplankeep_Pick.f a1 4001).bind fun t233 => ((railplanref1_Decimal.f k (wrap64 (t232 - 2000))).bind fun t234 => (if t234.size + 2 ≤ 9223372036854775807 then ((railplanref1_Decimal.f k (wrap64 (t233 - 2000))).bind fun t235 => (if t234.size + 2 + t235.size ≤ 9223372036854775807 then ((words_Range.f ((t234 ++ (⟨#[46, 46]⟩ : ByteArray)) ++ t235)).bind fun bt236 => (if (wrap64 (t232 - 2000)) > (wrap64 (t233 - 2000)) then ((railplanlaw3_awake.f k).bind fun t239 => (if t239 = true then (if bt236.2.2 = true then (some false) else (if bt236.1 = 0 then (some (bt236.2.1 == 0)) else (some false))) else (some false))) else ((railplanlaw3_awake.f k).bind fun t240 => (if t240 = true then (if bt236.2.2 = true then (if bt236.1 = (wrap64 (t232 - 2000)) then (some (bt236.2.1 == (wrap64 (t233 - 2000)))) else (some false)) else (some false)) else (some false))))) else (none))) else (none))))
theorem railplanlaw3_WordsRanges.mono : ∀ a0 a1 k, LeO (railplanlaw3_WordsRanges.f k a0 a1) (railplanlaw3_WordsRanges.f (k + 1) a0 a1) := by
  intro a0 a1 k
  unfold railplanlaw3_WordsRanges.f
  repeat' first
      | (with_reducible exact railplanlaw3_awake.mono _)
      | (with_reducible exact railplanref1_Decimal.mono _ _)
      | (with_reducible exact LeO.refl _)
      | (with_reducible exact LeO.none _)
      | (with_reducible refine LeO.ite ?_ ?_)
      | (with_reducible refine LeO.bind ?_ (fun _ => ?_))
      | exact railplanlaw3_awake.mono _
      | exact railplanref1_Decimal.mono _ _
      | exact LeO.none _
      | refine LeO.ite ?_ ?_
      | refine LeO.bind ?_ (fun _ => ?_)
set_option maxHeartbeats 8000000 in
set_option maxRecDepth 100000 in
theorem railplanlaw3_WordsRanges.calls (k : Nat) (a0 : Int) (a1 : Int) (r : Bool) (w : World) (hL_ : Aside0 (Laid w)) (hr_ : Aside0 (r = true)) (h : railplanlaw3_WordsRanges.f k a0 a1 = some r) :
    Calls Tryd.prog 10 #[.int .i64 a0, .int .i64 a1] w fun e w' => e = .returned (.bool r) ∧ Below w.heap.size w w' := by
  have HB := Aside0.mk (Below.refl w.heap.size w)
  have H : ((railplankeep_Pick.f a0 4001).bind fun t232 => ((railplankeep_Pick.f a1 4001).bind fun t233 => ((railplanref1_Decimal.f k (wrap64 (t232 - 2000))).bind fun t234 => (if t234.size + 2 ≤ 9223372036854775807 then ((railplanref1_Decimal.f k (wrap64 (t233 - 2000))).bind fun t235 => (if t234.size + 2 + t235.size ≤ 9223372036854775807 then ((words_Range.f ((t234 ++ (⟨#[46, 46]⟩ : ByteArray)) ++ t235)).bind fun bt236 => (if (wrap64 (t232 - 2000)) > (wrap64 (t233 - 2000)) then ((railplanlaw3_awake.f k).bind fun t239 => (if t239 = true then (if bt236.2.2 = true then (some false) else (if bt236.1 = 0 then (some (bt236.2.1 == 0)) else (some false))) else (some false))) else ((railplanlaw3_awake.f k).bind fun t240 => (if t240 = true then (if bt236.2.2 = true then (if bt236.1 = (wrap64 (t232 - 2000)) then (some (bt236.2.1 == (wrap64 (t233 - 2000)))) else (some false)) else (some false)) else (some false))))) else (none))) else (none))))) = some r := h
  clear h
  replace H := Option.bind_eq_some_iff.mp H
  obtain ⟨t232, A30, H⟩ := H
  replace H : ((railplankeep_Pick.f a1 4001).bind fun t233 => ((railplanref1_Decimal.f k (wrap64 (t232 - 2000))).bind fun t234 => (if t234.size + 2 ≤ 9223372036854775807 then ((railplanref1_Decimal.f k (wrap64 (t233 - 2000))).bind fun t235 => (if t234.size + 2 + t235.size ≤ 9223372036854775807 then ((words_Range.f ((t234 ++ (⟨#[46, 46]⟩ : ByteArray)) ++ t235)).bind fun bt236 => (if (wrap64 (t232 - 2000)) > (wrap64 (t233 - 2000)) then ((railplanlaw3_awake.f k).bind fun t239 => (if t239 = true then (if bt236.2.2 = true then (some false) else (if bt236.1 = 0 then (some (bt236.2.1 == 0)) else (some false))) else (some false))) else ((railplanlaw3_awake.f k).bind fun t240 => (if t240 = true then (if bt236.2.2 = true then (if bt236.1 = (wrap64 (t232 - 2000)) then (some (bt236.2.1 == (wrap64 (t233 - 2000)))) else (some false)) else (some false)) else (some false))))) else (none))) else (none)))) = some r := H
  have A3 := Aside0.mk A30
  clear A30
  replace H := Option.bind_eq_some_iff.mp H
  obtain ⟨t233, A40, H⟩ := H
  replace H : ((railplanref1_Decimal.f k (wrap64 (t232 - 2000))).bind fun t234 => (if t234.size + 2 ≤ 9223372036854775807 then ((railplanref1_Decimal.f k (wrap64 (t233 - 2000))).bind fun t235 => (if t234.size + 2 + t235.size ≤ 9223372036854775807 then ((words_Range.f ((t234 ++ (⟨#[46, 46]⟩ : ByteArray)) ++ t235)).bind fun bt236 => (if (wrap64 (t232 - 2000)) > (wrap64 (t233 - 2000)) then ((railplanlaw3_awake.f k).bind fun t239 => (if t239 = true then (if bt236.2.2 = true then (some false) else (if bt236.1 = 0 then (some (bt236.2.1 == 0)) else (some false))) else (some false))) else ((railplanlaw3_awake.f k).bind fun t240 => (if t240 = true then (if bt236.2.2 = true then (if bt236.1 = (wrap64 (t232 - 2000)) then (some (bt236.2.1 == (wrap64 (t233 - 2000)))) else (some false)) else (some false)) else (some false))))) else (none))) else (none))) = some r := H
  have A4 := Aside0.mk A40
  clear A40
  replace H := Option.bind_eq_some_iff.mp H
  obtain ⟨t234, A50, H⟩ := H
  replace H : (if t234.size + 2 ≤ 9223372036854775807 then ((railplanref1_Decimal.f k (wrap64 (t233 - 2000))).bind fun t235 => (if t234.size + 2 + t235.size ≤ 9223372036854775807 then ((words_Range.f ((t234 ++ (⟨#[46, 46]⟩ : ByteArray)) ++ t235)).bind fun bt236 => (if (wrap64 (t232 - 2000)) > (wrap64 (t233 - 2000)) then ((railplanlaw3_awake.f k).bind fun t239 => (if t239 = true then (if bt236.2.2 = true then (some false) else (if bt236.1 = 0 then (some (bt236.2.1 == 0)) else (some false))) else (some false))) else ((railplanlaw3_awake.f k).bind fun t240 => (if t240 = true then (if bt236.2.2 = true then (if bt236.1 = (wrap64 (t232 - 2000)) then (some (bt236.2.1 == (wrap64 (t233 - 2000)))) else (some false)) else (some false)) else (some false))))) else (none))) else (none)) = some r := H
  have A5 := Aside0.mk A50
  clear A50
  by_cases c6 : t234.size + 2 ≤ 9223372036854775807
  · rw [if_pos c6] at H
    have c6b0 := eq_true c6
    have c6b1 : decide (t234.size + 2 ≤ 9223372036854775807) = true := decide_eq_true c6
    try have c6b2 : (9223372036854775807 < t234.size + 2) = False := eq_false (Nat.not_lt.2 c6)
    replace H := Option.bind_eq_some_iff.mp H
    obtain ⟨t235, A70, H⟩ := H
    replace H : (if t234.size + 2 + t235.size ≤ 9223372036854775807 then ((words_Range.f ((t234 ++ (⟨#[46, 46]⟩ : ByteArray)) ++ t235)).bind fun bt236 => (if (wrap64 (t232 - 2000)) > (wrap64 (t233 - 2000)) then ((railplanlaw3_awake.f k).bind fun t239 => (if t239 = true then (if bt236.2.2 = true then (some false) else (if bt236.1 = 0 then (some (bt236.2.1 == 0)) else (some false))) else (some false))) else ((railplanlaw3_awake.f k).bind fun t240 => (if t240 = true then (if bt236.2.2 = true then (if bt236.1 = (wrap64 (t232 - 2000)) then (some (bt236.2.1 == (wrap64 (t233 - 2000)))) else (some false)) else (some false)) else (some false))))) else (none)) = some r := H
    have A7 := Aside0.mk A70
    clear A70
    by_cases c8 : t234.size + 2 + t235.size ≤ 9223372036854775807
    · rw [if_pos c8] at H
      have c8b0 := eq_true c8
      have c8b1 : decide (t234.size + 2 + t235.size ≤ 9223372036854775807) = true := decide_eq_true c8
      try have c8b2 : (9223372036854775807 < t234.size + 2 + t235.size) = False := eq_false (Nat.not_lt.2 c8)
      replace H := Option.bind_eq_some_iff.mp H
      obtain ⟨⟨t236, t237, t238⟩, A90, H⟩ := H
      replace H : (if (wrap64 (t232 - 2000)) > (wrap64 (t233 - 2000)) then ((railplanlaw3_awake.f k).bind fun t239 => (if t239 = true then (if t238 = true then (some false) else (if t236 = 0 then (some (t237 == 0)) else (some false))) else (some false))) else ((railplanlaw3_awake.f k).bind fun t240 => (if t240 = true then (if t238 = true then (if t236 = (wrap64 (t232 - 2000)) then (some (t237 == (wrap64 (t233 - 2000)))) else (some false)) else (some false)) else (some false)))) = some r := H
      have A9 := Aside0.mk A90
      clear A90
      by_cases c10 : (wrap64 (t232 - 2000)) > (wrap64 (t233 - 2000))
      · rw [if_pos c10] at H
        have c10b0 : decide ((wrap64 (t233 - 2000)) < (wrap64 (t232 - 2000))) = true := decide_eq_true c10
        clear c10
        replace H := Option.bind_eq_some_iff.mp H
        obtain ⟨t239, A110, H⟩ := H
        replace H : (if t239 = true then (if t238 = true then (some false) else (if t236 = 0 then (some (t237 == 0)) else (some false))) else (some false)) = some r := H
        have A11 := Aside0.mk A110
        clear A110
        by_cases c12 : t239 = true
        · subst c12
          have H1 : (if t238 = true then (some false) else (if t236 = 0 then (some (t237 == 0)) else (some false))) = some r := by rw [if_pos rfl] at H; exact H
          clear H
          have H := H1
          clear H1
          by_cases c13 : t238 = true
          · subst c13
            have H1 : (some false) = some r := by rw [if_pos rfl] at H; exact H
            clear H
            have H := H1
            clear H1
            obtain rfl := Option.some.inj H
            exact absurd hr_.out (by decide)
          · replace c13 := Bool.eq_false_iff.mpr c13
            subst c13
            have H1 : (if t236 = 0 then (some (t237 == 0)) else (some false)) = some r := by rw [if_neg (show ¬ (false = true) by decide)] at H; exact H
            clear H
            have H := H1
            clear H1
            by_cases c14 : t236 = 0
            · rw [if_pos c14] at H
              have c14b0 : (t236 == 0) = true := beq_iff_eq.mpr c14
              have c14b1 : (t236 != 0) = false := bne_eq_false_iff_eq.mpr c14
              clear c14
              obtain rfl := Option.some.inj H
              simp only [Option.some.injEq, Prod.mk.injEq] at H
              obtain ⟨rfl⟩ := H
              go_enter Tryd.func10, Tryd.ntmps10
              go_wp2_with (first | ((with_reducible refine gate_callee (f := 23) rfl ?_); refine goesL_ (some 9) rfl rfl Tryd.func23 (by kernel_rfl) rfl #[.int .i64 a0, .int .i64 4001] rfl (by (try simp only [List.map_toArray, List.map_cons, List.map_nil]); first | done | rfl | (simp only [List.length_drop, List.length_take]; rfl)) ?_; (with_reducible refine (railplankeep_Pick.calls a0 4001 t232 _ A3.out).mono ?_); rintro e w' ⟨rfl, ⟨nd, rfl⟩⟩; refine ⟨_, rfl, ?_⟩) | ((with_reducible refine gate_callee (f := 23) rfl ?_); refine goesL_ (some 12) rfl rfl Tryd.func23 (by kernel_rfl) rfl #[.int .i64 a1, .int .i64 4001] rfl (by (try simp only [List.map_toArray, List.map_cons, List.map_nil]); first | done | rfl | (simp only [List.length_drop, List.length_take]; rfl)) ?_; (with_reducible refine (railplankeep_Pick.calls a1 4001 t233 _ A4.out).mono ?_); rintro e w' ⟨rfl, ⟨nd, rfl⟩⟩; refine ⟨_, rfl, ?_⟩) | ((with_reducible refine gate_callee (f := 21) rfl ?_); refine goesL_ (some 16) rfl rfl Tryd.func21 (by kernel_rfl) rfl #[.int .i64 (wrap64 (t232 - 2000))] rfl (by (try simp only [List.map_toArray, List.map_cons, List.map_nil]); first | done | rfl | (simp only [List.length_drop, List.length_take]; rfl)) ?_; (with_reducible refine (railplanref1_Decimal.calls k (wrap64 (t232 - 2000)) t234 _ A5.out).mono ?_); rintro e w' ⟨rfl, ⟨nd, rfl⟩⟩; refine ⟨_, rfl, ?_⟩) | ((with_reducible refine gate_callee (f := 21) rfl ?_); refine goesL_ (some 19) rfl rfl Tryd.func21 (by kernel_rfl) rfl #[.int .i64 (wrap64 (t233 - 2000))] rfl (by (try simp only [List.map_toArray, List.map_cons, List.map_nil]); first | done | rfl | (simp only [List.length_drop, List.length_take]; rfl)) ?_; (with_reducible refine (railplanref1_Decimal.calls k (wrap64 (t233 - 2000)) t235 _ A7.out).mono ?_); rintro e w' ⟨rfl, ⟨nd, rfl⟩⟩; refine ⟨_, rfl, ?_⟩) | ((with_reducible refine gate_callee (f := 15) rfl ?_); refine goesL_ (some 21) rfl rfl Tryd.func15 (by kernel_rfl) rfl #[.string ((t234 ++ (⟨#[46, 46]⟩ : ByteArray)) ++ t235)] rfl (by (try simp only [List.map_toArray, List.map_cons, List.map_nil]); first | done | rfl | (simp only [List.length_drop, List.length_take]; rfl)) ?_; (with_reducible refine (words_Range.calls ((t234 ++ (⟨#[46, 46]⟩ : ByteArray)) ++ t235) t236 t237 false _ ?side1 A9.out).mono ?_); (case side1 => exact ⟨hL_.out.below (by repeat (first | (with_reducible first | exact HB.out | apply below_alloc | apply pw_below_drewN | apply below_drew1) | exact HB.out))⟩); rintro e w15 ⟨rfl, hb⟩; refine ⟨_, rfl, ?_⟩; have n0_ := Aside0.mk (below_step (by repeat (first | (with_reducible first | exact HB.out | apply below_alloc | apply pw_below_drewN | apply below_drew1) | exact HB.out)) hb); clear HB; have HB := n0_; clear n0_; (try clear hb); (try clear hb2); (try clear hk); (try clear hi)) | ((with_reducible refine gate_callee (f := 18) rfl ?_); refine goesL_ (some 28) rfl rfl Tryd.func18 (by kernel_rfl) rfl #[] rfl (by (try simp only [List.map_toArray, List.map_cons, List.map_nil]); first | done | rfl | (simp only [List.length_drop, List.length_take]; rfl)) ?_; (with_reducible refine (railplanlaw3_awake.calls k  true _ ?side1 A11.out).mono ?_); (case side1 => exact ⟨hL_.out.below (by repeat (first | (with_reducible first | exact HB.out | apply below_alloc | apply pw_below_drewN | apply below_drew1) | exact HB.out))⟩); rintro e w16 ⟨rfl, hb⟩; refine ⟨_, rfl, ?_⟩; have n0_ := Aside0.mk (below_step (by repeat (first | (with_reducible first | exact HB.out | apply below_alloc | apply pw_below_drewN | apply below_drew1) | exact HB.out)) hb); clear HB; have HB := n0_; clear n0_; (try clear hb); (try clear hb2); (try clear hk); (try clear hi)))
              go_ret
              exact ⟨by first | rfl | (simp [errW_none, errW_some] <;> rfl) | (simp [*, errW_none, errW_some] <;> rfl), by repeat (first | (with_reducible first | exact HB.out | apply below_alloc | apply pw_below_drewN | apply below_drew1) | exact HB.out)⟩
            · rw [if_neg c14] at H
              have c14b0 : (t236 == 0) = false := beq_eq_false_iff_ne.mpr c14
              have c14b1 : (t236 != 0) = true := bne_iff_ne.mpr c14
              obtain rfl := Option.some.inj H
              exact absurd hr_.out (by decide)
        · replace c12 := Bool.eq_false_iff.mpr c12
          subst c12
          have H1 : (some false) = some r := by rw [if_neg (show ¬ (false = true) by decide)] at H; exact H
          clear H
          have H := H1
          clear H1
          obtain rfl := Option.some.inj H
          exact absurd hr_.out (by decide)
      · rw [if_neg c10] at H
        have c10b0 : decide ((wrap64 (t233 - 2000)) < (wrap64 (t232 - 2000))) = false := decide_eq_false c10
        clear c10
        replace H := Option.bind_eq_some_iff.mp H
        obtain ⟨t240, A170, H⟩ := H
        replace H : (if t240 = true then (if t238 = true then (if t236 = (wrap64 (t232 - 2000)) then (some (t237 == (wrap64 (t233 - 2000)))) else (some false)) else (some false)) else (some false)) = some r := H
        have A17 := Aside0.mk A170
        clear A170
        by_cases c18 : t240 = true
        · subst c18
          have H1 : (if t238 = true then (if t236 = (wrap64 (t232 - 2000)) then (some (t237 == (wrap64 (t233 - 2000)))) else (some false)) else (some false)) = some r := by rw [if_pos rfl] at H; exact H
          clear H
          have H := H1
          clear H1
          by_cases c19 : t238 = true
          · subst c19
            have H1 : (if t236 = (wrap64 (t232 - 2000)) then (some (t237 == (wrap64 (t233 - 2000)))) else (some false)) = some r := by rw [if_pos rfl] at H; exact H
            clear H
            have H := H1
            clear H1
            by_cases c20 : t236 = (wrap64 (t232 - 2000))
            · rw [if_pos c20] at H
              have c20b0 : (t236 == (wrap64 (t232 - 2000))) = true := beq_iff_eq.mpr c20
              have c20b1 : (t236 != (wrap64 (t232 - 2000))) = false := bne_eq_false_iff_eq.mpr c20
              clear c20
              obtain rfl := Option.some.inj H
              simp only [Option.some.injEq, Prod.mk.injEq] at H
              obtain ⟨rfl⟩ := H
              go_enter Tryd.func10, Tryd.ntmps10
              go_wp2_with (first | ((with_reducible refine gate_callee (f := 23) rfl ?_); refine goesL_ (some 9) rfl rfl Tryd.func23 (by kernel_rfl) rfl #[.int .i64 a0, .int .i64 4001] rfl (by (try simp only [List.map_toArray, List.map_cons, List.map_nil]); first | done | rfl | (simp only [List.length_drop, List.length_take]; rfl)) ?_; (with_reducible refine (railplankeep_Pick.calls a0 4001 t232 _ A3.out).mono ?_); rintro e w' ⟨rfl, ⟨nd, rfl⟩⟩; refine ⟨_, rfl, ?_⟩) | ((with_reducible refine gate_callee (f := 23) rfl ?_); refine goesL_ (some 12) rfl rfl Tryd.func23 (by kernel_rfl) rfl #[.int .i64 a1, .int .i64 4001] rfl (by (try simp only [List.map_toArray, List.map_cons, List.map_nil]); first | done | rfl | (simp only [List.length_drop, List.length_take]; rfl)) ?_; (with_reducible refine (railplankeep_Pick.calls a1 4001 t233 _ A4.out).mono ?_); rintro e w' ⟨rfl, ⟨nd, rfl⟩⟩; refine ⟨_, rfl, ?_⟩) | ((with_reducible refine gate_callee (f := 21) rfl ?_); refine goesL_ (some 16) rfl rfl Tryd.func21 (by kernel_rfl) rfl #[.int .i64 (wrap64 (t232 - 2000))] rfl (by (try simp only [List.map_toArray, List.map_cons, List.map_nil]); first | done | rfl | (simp only [List.length_drop, List.length_take]; rfl)) ?_; (with_reducible refine (railplanref1_Decimal.calls k (wrap64 (t232 - 2000)) t234 _ A5.out).mono ?_); rintro e w' ⟨rfl, ⟨nd, rfl⟩⟩; refine ⟨_, rfl, ?_⟩) | ((with_reducible refine gate_callee (f := 21) rfl ?_); refine goesL_ (some 19) rfl rfl Tryd.func21 (by kernel_rfl) rfl #[.int .i64 (wrap64 (t233 - 2000))] rfl (by (try simp only [List.map_toArray, List.map_cons, List.map_nil]); first | done | rfl | (simp only [List.length_drop, List.length_take]; rfl)) ?_; (with_reducible refine (railplanref1_Decimal.calls k (wrap64 (t233 - 2000)) t235 _ A7.out).mono ?_); rintro e w' ⟨rfl, ⟨nd, rfl⟩⟩; refine ⟨_, rfl, ?_⟩) | ((with_reducible refine gate_callee (f := 15) rfl ?_); refine goesL_ (some 21) rfl rfl Tryd.func15 (by kernel_rfl) rfl #[.string ((t234 ++ (⟨#[46, 46]⟩ : ByteArray)) ++ t235)] rfl (by (try simp only [List.map_toArray, List.map_cons, List.map_nil]); first | done | rfl | (simp only [List.length_drop, List.length_take]; rfl)) ?_; (with_reducible refine (words_Range.calls ((t234 ++ (⟨#[46, 46]⟩ : ByteArray)) ++ t235) t236 t237 true _ ?side1 A9.out).mono ?_); (case side1 => exact ⟨hL_.out.below (by repeat (first | (with_reducible first | exact HB.out | apply below_alloc | apply pw_below_drewN | apply below_drew1) | exact HB.out))⟩); rintro e w21 ⟨rfl, hb⟩; refine ⟨_, rfl, ?_⟩; have n0_ := Aside0.mk (below_step (by repeat (first | (with_reducible first | exact HB.out | apply below_alloc | apply pw_below_drewN | apply below_drew1) | exact HB.out)) hb); clear HB; have HB := n0_; clear n0_; (try clear hb); (try clear hb2); (try clear hk); (try clear hi)) | ((with_reducible refine gate_callee (f := 18) rfl ?_); refine goesL_ (some 41) rfl rfl Tryd.func18 (by kernel_rfl) rfl #[] rfl (by (try simp only [List.map_toArray, List.map_cons, List.map_nil]); first | done | rfl | (simp only [List.length_drop, List.length_take]; rfl)) ?_; (with_reducible refine (railplanlaw3_awake.calls k  true _ ?side1 A17.out).mono ?_); (case side1 => exact ⟨hL_.out.below (by repeat (first | (with_reducible first | exact HB.out | apply below_alloc | apply pw_below_drewN | apply below_drew1) | exact HB.out))⟩); rintro e w22 ⟨rfl, hb⟩; refine ⟨_, rfl, ?_⟩; have n0_ := Aside0.mk (below_step (by repeat (first | (with_reducible first | exact HB.out | apply below_alloc | apply pw_below_drewN | apply below_drew1) | exact HB.out)) hb); clear HB; have HB := n0_; clear n0_; (try clear hb); (try clear hb2); (try clear hk); (try clear hi)))
              go_ret
              exact ⟨by first | rfl | (simp [errW_none, errW_some] <;> rfl) | (simp [*, errW_none, errW_some] <;> rfl), by repeat (first | (with_reducible first | exact HB.out | apply below_alloc | apply pw_below_drewN | apply below_drew1) | exact HB.out)⟩
            · rw [if_neg c20] at H
              have c20b0 : (t236 == (wrap64 (t232 - 2000))) = false := beq_eq_false_iff_ne.mpr c20
              have c20b1 : (t236 != (wrap64 (t232 - 2000))) = true := bne_iff_ne.mpr c20
              obtain rfl := Option.some.inj H
              exact absurd hr_.out (by decide)
          · replace c19 := Bool.eq_false_iff.mpr c19
            subst c19
            have H1 : (some false) = some r := by rw [if_neg (show ¬ (false = true) by decide)] at H; exact H
            clear H
            have H := H1
            clear H1
            obtain rfl := Option.some.inj H
            exact absurd hr_.out (by decide)
        · replace c18 := Bool.eq_false_iff.mpr c18
          subst c18
          have H1 : (some false) = some r := by rw [if_neg (show ¬ (false = true) by decide)] at H; exact H
          clear H
          have H := H1
          clear H1
          obtain rfl := Option.some.inj H
          exact absurd hr_.out (by decide)
    · rw [if_neg c8] at H
      exact absurd H (by simp)
  · rw [if_neg c6] at H
    exact absurd H (by simp)

def railplanlaw3_WordsRanges.Pure : Prop := ∀ (a0 : Int) (a1 : Int), (fun x : Int => (Lit.int .i64 x).wf = true) a0 → (fun x : Int => (Lit.int .i64 x).wf = true) a1 → ∃ k, railplanlaw3_WordsRanges.f k a0 a1 = some true

end Go.Proofs.YtnmbljpifadipaaDoor.X
