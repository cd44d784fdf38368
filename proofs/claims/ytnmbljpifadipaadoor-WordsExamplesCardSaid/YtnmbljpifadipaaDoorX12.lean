/- Written by a program of this claim. Proved: each Go function named below, called with any arguments at which its Lean function answers, returns that answer; or, of a law, its given statement. -/
import Derived.Test.YtnmbljpifadipaaDoorX0
import Derived.Test.YtnmbljpifadipaaDoorX6
import Derived.Test.YtnmbljpifadipaaDoorQLaid
import Derived.Test.YtnmbljpifadipaaDoorQLines
namespace Go.Proofs.YtnmbljpifadipaaDoor.X
open Go.RowKit Go.Proofs.YtnmbljpifadipaaDoorW Go.Proofs.YtnmbljpifadipaaDoorW.PrintWords Go.Proofs.YtnmbljpifadipaaDoorW.PrintLast Go.Proofs.YtnmbljpifadipaaDoorW.PrintMore
attribute [local go_sem] max2_int min2_int max_two min_two max_three min_three max_four min_four   -- for this text's walks alone
set_option linter.unusedVariables false
set_option linter.unusedSimpArgs false

/-! ### railplanlaw3_WordsExamples: function 3 -/
def railplanlaw3_WordsExamples.f (k : Nat)  : Option (Bool) := (words_Lines.f k (⟨#[97, 32, 32, 98, 32, 35, 32, 99, 10, 10, 32, 100]⟩ : ByteArray)).bind fun bt103 => ((words_Number.f (⟨#[45, 48]⟩ : ByteArray)).bind fun bt108 => ((words_Number.f (⟨#[48, 48, 55]⟩ : ByteArray)).bind fun bt110 => ((words_Range.f (⟨#[51, 46, 46, 57]⟩ : ByteArray)).bind fun bt112 => (if bt103.2.2 = 0 then (if bt103.2.1 = 0 then (if (bt103.1.length : Int) = 2 then (if 0 < (bt103.1.length : Int) then ((api_Word_16.f k (rd_L3 bt103.1 0) (([(⟨(⟨#[97]⟩ : ByteArray), 1, 1⟩ : S32), (⟨(⟨#[98]⟩ : ByteArray), 1, 4⟩ : S32)] : List (S32)))).bind fun t119 => (if t119 = true then (if 1 < (bt103.1.length : Int) then ((api_Word_16.f k (rd_L3 bt103.1 1) (([(⟨(⟨#[100]⟩ : ByteArray), 3, 2⟩ : S32)] : List (S32)))).bind fun t124 => (if t124 = true then (if bt108.2 = true then (some false) else (if bt110.2 = true then (some false) else (if bt112.1 = 3 then (if bt112.2.1 = 9 then (some bt112.2.2) else (some false)) else (some false)))) else (some false))) else (none)) else (some false))) else (none)) else (some false)) else (some false)) else (some false)))))
theorem railplanlaw3_WordsExamples.mono : ∀ k, LeO (railplanlaw3_WordsExamples.f k ) (railplanlaw3_WordsExamples.f (k + 1) ) := by
  intro  k
  unfold railplanlaw3_WordsExamples.f
  repeat' first
      | (with_reducible exact api_Word_16.mono _ _ _)
      | (with_reducible exact words_Lines.mono _ _)
      | (with_reducible exact LeO.refl _)
      | (with_reducible exact LeO.none _)
      | (with_reducible refine LeO.ite ?_ ?_)
      | (with_reducible refine LeO.bind ?_ (fun _ => ?_))
      | exact api_Word_16.mono _ _ _
      | exact words_Lines.mono _ _
      | exact LeO.none _
      | refine LeO.ite ?_ ?_
      | refine LeO.bind ?_ (fun _ => ?_)
set_option maxHeartbeats 8000000 in
set_option maxRecDepth 100000 in
theorem railplanlaw3_WordsExamples.calls (k : Nat)  (r : Bool) (w : World) (hL_ : Aside0 (Laid w)) (hr_ : Aside0 (r = true)) (h : railplanlaw3_WordsExamples.f k  = some r) :
    Calls Tryd.prog 3 #[] w fun e w' => e = .returned (.bool r) ∧ Below w.heap.size w w' := by
  have hu32 := Tryd.underlying32
  have HB := Aside0.mk (Below.refl w.heap.size w)
  have H : ((words_Lines.f k (⟨#[97, 32, 32, 98, 32, 35, 32, 99, 10, 10, 32, 100]⟩ : ByteArray)).bind fun bt103 => ((words_Number.f (⟨#[45, 48]⟩ : ByteArray)).bind fun bt108 => ((words_Number.f (⟨#[48, 48, 55]⟩ : ByteArray)).bind fun bt110 => ((words_Range.f (⟨#[51, 46, 46, 57]⟩ : ByteArray)).bind fun bt112 => (if bt103.2.2 = 0 then (if bt103.2.1 = 0 then (if (bt103.1.length : Int) = 2 then (if 0 < (bt103.1.length : Int) then ((api_Word_16.f k (rd_L3 bt103.1 0) (([(⟨(⟨#[97]⟩ : ByteArray), 1, 1⟩ : S32), (⟨(⟨#[98]⟩ : ByteArray), 1, 4⟩ : S32)] : List (S32)))).bind fun t119 => (if t119 = true then (if 1 < (bt103.1.length : Int) then ((api_Word_16.f k (rd_L3 bt103.1 1) (([(⟨(⟨#[100]⟩ : ByteArray), 3, 2⟩ : S32)] : List (S32)))).bind fun t124 => (if t124 = true then (if bt108.2 = true then (some false) else (if bt110.2 = true then (some false) else (if bt112.1 = 3 then (if bt112.2.1 = 9 then (some bt112.2.2) else (some false)) else (some false)))) else (some false))) else (none)) else (some false))) else (none)) else (some false)) else (some false)) else (some false)))))) = some r := h
  clear h
  replace H := Option.bind_eq_some_iff.mp H
  obtain ⟨⟨t103, t104, t105⟩, A10, H⟩ := H
  replace H : ((words_Number.f (⟨#[45, 48]⟩ : ByteArray)).bind fun bt108 => ((words_Number.f (⟨#[48, 48, 55]⟩ : ByteArray)).bind fun bt110 => ((words_Range.f (⟨#[51, 46, 46, 57]⟩ : ByteArray)).bind fun bt112 => (if t105 = 0 then (if t104 = 0 then (if (t103.length : Int) = 2 then (if 0 < (t103.length : Int) then ((api_Word_16.f k (rd_L3 t103 0) (([(⟨(⟨#[97]⟩ : ByteArray), 1, 1⟩ : S32), (⟨(⟨#[98]⟩ : ByteArray), 1, 4⟩ : S32)] : List (S32)))).bind fun t119 => (if t119 = true then (if 1 < (t103.length : Int) then ((api_Word_16.f k (rd_L3 t103 1) (([(⟨(⟨#[100]⟩ : ByteArray), 3, 2⟩ : S32)] : List (S32)))).bind fun t124 => (if t124 = true then (if bt108.2 = true then (some false) else (if bt110.2 = true then (some false) else (if bt112.1 = 3 then (if bt112.2.1 = 9 then (some bt112.2.2) else (some false)) else (some false)))) else (some false))) else (none)) else (some false))) else (none)) else (some false)) else (some false)) else (some false))))) = some r := H
  have A1 := Aside0.mk A10
  clear A10
  replace H := Option.bind_eq_some_iff.mp H
  obtain ⟨⟨t108, t109⟩, A20, H⟩ := H
  replace H : ((words_Number.f (⟨#[48, 48, 55]⟩ : ByteArray)).bind fun bt110 => ((words_Range.f (⟨#[51, 46, 46, 57]⟩ : ByteArray)).bind fun bt112 => (if t105 = 0 then (if t104 = 0 then (if (t103.length : Int) = 2 then (if 0 < (t103.length : Int) then ((api_Word_16.f k (rd_L3 t103 0) (([(⟨(⟨#[97]⟩ : ByteArray), 1, 1⟩ : S32), (⟨(⟨#[98]⟩ : ByteArray), 1, 4⟩ : S32)] : List (S32)))).bind fun t119 => (if t119 = true then (if 1 < (t103.length : Int) then ((api_Word_16.f k (rd_L3 t103 1) (([(⟨(⟨#[100]⟩ : ByteArray), 3, 2⟩ : S32)] : List (S32)))).bind fun t124 => (if t124 = true then (if t109 = true then (some false) else (if bt110.2 = true then (some false) else (if bt112.1 = 3 then (if bt112.2.1 = 9 then (some bt112.2.2) else (some false)) else (some false)))) else (some false))) else (none)) else (some false))) else (none)) else (some false)) else (some false)) else (some false)))) = some r := H
  have A2 := Aside0.mk A20
  clear A20
  replace H := Option.bind_eq_some_iff.mp H
  obtain ⟨⟨t110, t111⟩, A30, H⟩ := H
  replace H : ((words_Range.f (⟨#[51, 46, 46, 57]⟩ : ByteArray)).bind fun bt112 => (if t105 = 0 then (if t104 = 0 then (if (t103.length : Int) = 2 then (if 0 < (t103.length : Int) then ((api_Word_16.f k (rd_L3 t103 0) (([(⟨(⟨#[97]⟩ : ByteArray), 1, 1⟩ : S32), (⟨(⟨#[98]⟩ : ByteArray), 1, 4⟩ : S32)] : List (S32)))).bind fun t119 => (if t119 = true then (if 1 < (t103.length : Int) then ((api_Word_16.f k (rd_L3 t103 1) (([(⟨(⟨#[100]⟩ : ByteArray), 3, 2⟩ : S32)] : List (S32)))).bind fun t124 => (if t124 = true then (if t109 = true then (some false) else (if t111 = true then (some false) else (if bt112.1 = 3 then (if bt112.2.1 = 9 then (some bt112.2.2) else (some false)) else (some false)))) else (some false))) else (none)) else (some false))) else (none)) else (some false)) else (some false)) else (some false))) = some r := H
  have A3 := Aside0.mk A30
  clear A30
  replace H := Option.bind_eq_some_iff.mp H
  obtain ⟨⟨t112, t113, t114⟩, A40, H⟩ := H
  replace H : (if t105 = 0 then (if t104 = 0 then (if (t103.length : Int) = 2 then (if 0 < (t103.length : Int) then ((api_Word_16.f k (rd_L3 t103 0) (([(⟨(⟨#[97]⟩ : ByteArray), 1, 1⟩ : S32), (⟨(⟨#[98]⟩ : ByteArray), 1, 4⟩ : S32)] : List (S32)))).bind fun t119 => (if t119 = true then (if 1 < (t103.length : Int) then ((api_Word_16.f k (rd_L3 t103 1) (([(⟨(⟨#[100]⟩ : ByteArray), 3, 2⟩ : S32)] : List (S32)))).bind fun t124 => (if t124 = true then (if t109 = true then (some false) else (if t111 = true then (some false) else (if t112 = 3 then (if t113 = 9 then (some t114) else (some false)) else (some false)))) else (some false))) else (none)) else (some false))) else (none)) else (some false)) else (some false)) else (some false)) = some r := H
  have A4 := Aside0.mk A40
  clear A40
  by_cases c5 : t105 = 0
  · rw [if_pos c5] at H
    have c5b0 : (t105 == 0) = true := beq_iff_eq.mpr c5
    have c5b1 : (t105 != 0) = false := bne_eq_false_iff_eq.mpr c5
    clear c5
    by_cases c6 : t104 = 0
    · rw [if_pos c6] at H
      have c6b0 : (t104 == 0) = true := beq_iff_eq.mpr c6
      have c6b1 : (t104 != 0) = false := bne_eq_false_iff_eq.mpr c6
      clear c6
      by_cases c7 : (t103.length : Int) = 2
      · rw [if_pos c7] at H
        have c7b0 : ((t103.length : Int) == 2) = true := beq_iff_eq.mpr c7
        have c7b1 : ((t103.length : Int) != 2) = false := bne_eq_false_iff_eq.mpr c7
        clear c7
        by_cases c8 : 0 < (t103.length : Int)
        · rw [if_pos c8] at H
          have c8b0 : decide (0 < (t103.length : Int)) = true := decide_eq_true c8
          have c8b1 : decide (0 < t103.length) = true := decide_eq_true (by omega)
          clear c8
          obtain ⟨y116, hy116⟩ : ∃ y_ : List (S32), y_ = (([(⟨(⟨#[97]⟩ : ByteArray), 1, 1⟩ : S32), (⟨(⟨#[98]⟩ : ByteArray), 1, 4⟩ : S32)] : List (S32))) := ⟨_, rfl⟩
          replace H : ((api_Word_16.f k (rd_L3 t103 0) y116).bind fun t119 => (if t119 = true then (if 1 < (t103.length : Int) then ((api_Word_16.f k (rd_L3 t103 1) (([(⟨(⟨#[100]⟩ : ByteArray), 3, 2⟩ : S32)] : List (S32)))).bind fun t124 => (if t124 = true then (if t109 = true then (some false) else (if t111 = true then (some false) else (if t112 = 3 then (if t113 = 9 then (some t114) else (some false)) else (some false)))) else (some false))) else (none)) else (some false))) = some r := by first | (rw [hy116]; with_reducible exact H) | (have H2_ := (Option.bind_some _ _).symm.trans H; rw [hy116]; with_reducible exact H2_) | (have H2_ := (Option.bind_some _ _).symm.trans H; with_reducible exact H2_) | with_reducible exact H | (rw [hy116]; exact H) | exact H
          have Ny116 := Aside0.mk hy116
          clear hy116
          replace H := Option.bind_eq_some_iff.mp H
          obtain ⟨t119, A90, H⟩ := H
          replace H : (if t119 = true then (if 1 < (t103.length : Int) then ((api_Word_16.f k (rd_L3 t103 1) (([(⟨(⟨#[100]⟩ : ByteArray), 3, 2⟩ : S32)] : List (S32)))).bind fun t124 => (if t124 = true then (if t109 = true then (some false) else (if t111 = true then (some false) else (if t112 = 3 then (if t113 = 9 then (some t114) else (some false)) else (some false)))) else (some false))) else (none)) else (some false)) = some r := H
          have A9 := Aside0.mk A90
          clear A90
          by_cases c10 : t119 = true
          · subst c10
            have H1 : (if 1 < (t103.length : Int) then ((api_Word_16.f k (rd_L3 t103 1) (([(⟨(⟨#[100]⟩ : ByteArray), 3, 2⟩ : S32)] : List (S32)))).bind fun t124 => (if t124 = true then (if t109 = true then (some false) else (if t111 = true then (some false) else (if t112 = 3 then (if t113 = 9 then (some t114) else (some false)) else (some false)))) else (some false))) else (none)) = some r := by rw [if_pos rfl] at H; exact H
            clear H
            have H := H1
            clear H1
            by_cases c11 : 1 < (t103.length : Int)
            · rw [if_pos c11] at H
              have c11b0 : decide (1 < (t103.length : Int)) = true := decide_eq_true c11
              have c11b1 : decide (1 < t103.length) = true := decide_eq_true (by omega)
              clear c11
              obtain ⟨y121, hy121⟩ : ∃ y_ : List (S32), y_ = (([(⟨(⟨#[100]⟩ : ByteArray), 3, 2⟩ : S32)] : List (S32))) := ⟨_, rfl⟩
              replace H : ((api_Word_16.f k (rd_L3 t103 1) y121).bind fun t124 => (if t124 = true then (if t109 = true then (some false) else (if t111 = true then (some false) else (if t112 = 3 then (if t113 = 9 then (some t114) else (some false)) else (some false)))) else (some false))) = some r := by first | (rw [hy121]; with_reducible exact H) | (have H2_ := (Option.bind_some _ _).symm.trans H; rw [hy121]; with_reducible exact H2_) | (have H2_ := (Option.bind_some _ _).symm.trans H; with_reducible exact H2_) | with_reducible exact H | (rw [hy121]; exact H) | exact H
              have Ny121 := Aside0.mk hy121
              clear hy121
              replace H := Option.bind_eq_some_iff.mp H
              obtain ⟨t124, A120, H⟩ := H
              replace H : (if t124 = true then (if t109 = true then (some false) else (if t111 = true then (some false) else (if t112 = 3 then (if t113 = 9 then (some t114) else (some false)) else (some false)))) else (some false)) = some r := H
              have A12 := Aside0.mk A120
              clear A120
              by_cases c13 : t124 = true
              · subst c13
                have H1 : (if t109 = true then (some false) else (if t111 = true then (some false) else (if t112 = 3 then (if t113 = 9 then (some t114) else (some false)) else (some false)))) = some r := by rw [if_pos rfl] at H; exact H
                clear H
                have H := H1
                clear H1
                by_cases c14 : t109 = true
                · subst c14
                  have H1 : (some false) = some r := by rw [if_pos rfl] at H; exact H
                  clear H
                  have H := H1
                  clear H1
                  obtain rfl := Option.some.inj H
                  exact absurd hr_.out (by decide)
                · replace c14 := Bool.eq_false_iff.mpr c14
                  subst c14
                  have H1 : (if t111 = true then (some false) else (if t112 = 3 then (if t113 = 9 then (some t114) else (some false)) else (some false))) = some r := by rw [if_neg (show ¬ (false = true) by decide)] at H; exact H
                  clear H
                  have H := H1
                  clear H1
                  by_cases c15 : t111 = true
                  · subst c15
                    have H1 : (some false) = some r := by rw [if_pos rfl] at H; exact H
                    clear H
                    have H := H1
                    clear H1
                    obtain rfl := Option.some.inj H
                    exact absurd hr_.out (by decide)
                  · replace c15 := Bool.eq_false_iff.mpr c15
                    subst c15
                    have H1 : (if t112 = 3 then (if t113 = 9 then (some t114) else (some false)) else (some false)) = some r := by rw [if_neg (show ¬ (false = true) by decide)] at H; exact H
                    clear H
                    have H := H1
                    clear H1
                    by_cases c16 : t112 = 3
                    · rw [if_pos c16] at H
                      have c16b0 : (t112 == 3) = true := beq_iff_eq.mpr c16
                      have c16b1 : (t112 != 3) = false := bne_eq_false_iff_eq.mpr c16
                      clear c16
                      by_cases c17 : t113 = 9
                      · rw [if_pos c17] at H
                        have c17b0 : (t113 == 9) = true := beq_iff_eq.mpr c17
                        have c17b1 : (t113 != 9) = false := bne_eq_false_iff_eq.mpr c17
                        clear c17
                        obtain rfl := Option.some.inj H
                        simp only [Option.some.injEq, Prod.mk.injEq] at H
                        obtain ⟨rfl⟩ := H
                        go_enter Tryd.func3, Tryd.ntmps3
                        go_wp2_with (first | ((with_reducible refine gate_callee (f := 13) rfl ?_); refine goesL_ (some 12) rfl rfl Tryd.func13 (by kernel_rfl) rfl #[.string (⟨#[97, 32, 32, 98, 32, 35, 32, 99, 10, 10, 32, 100]⟩ : ByteArray)] rfl (by (try simp only [List.map_toArray, List.map_cons, List.map_nil]); first | done | rfl | (simp only [List.length_drop, List.length_take]; rfl)) ?_; (with_reducible refine (words_Lines.calls k (⟨#[97, 32, 32, 98, 32, 35, 32, 99, 10, 10, 32, 100]⟩ : ByteArray) t103 t104 t105 _ ?side1 A1.out).mono ?_); (case side1 => exact ⟨hL_.out.below (by repeat (first | (with_reducible first | exact HB.out | apply below_alloc | apply pw_below_drewN | apply below_drew1) | exact HB.out))⟩); rintro e w18 ⟨v106, rfl, ho0, hb⟩; refine ⟨_, rfl, ?_⟩; have n0_ := Aside0.mk (Kd.S_lower ho0 (below_size (by repeat (first | (with_reducible first | exact HB.out | apply below_alloc | apply pw_below_drewN | apply below_drew1) | exact HB.out)))); have n1_ := Aside0.mk (below_step (by repeat (first | (with_reducible first | exact HB.out | apply below_alloc | apply pw_below_drewN | apply below_drew1) | exact HB.out)) hb); clear HB; have HO107 := n0_; have HB := n1_; clear n0_ n1_; (try clear hb); (try clear hb2); (try clear hk); (try clear hi); (try clear ho0)) | ((with_reducible refine gate_callee (f := 14) rfl ?_); refine goesL_ (some 17) rfl rfl Tryd.func14 (by kernel_rfl) rfl #[.string (⟨#[45, 48]⟩ : ByteArray)] rfl (by (try simp only [List.map_toArray, List.map_cons, List.map_nil]); first | done | rfl | (simp only [List.length_drop, List.length_take]; rfl)) ?_; (with_reducible refine (words_Number.calls (⟨#[45, 48]⟩ : ByteArray) t108 false _ ?side1 A2.out).mono ?_); (case side1 => exact ⟨hL_.out.below (by repeat (first | (with_reducible first | exact HB.out | apply below_alloc | apply pw_below_drewN | apply below_drew1) | exact HB.out))⟩); rintro e w19 ⟨rfl, hb⟩; refine ⟨_, rfl, ?_⟩; have n0_ := Aside0.mk (Kd.S_below (by (with_reducible repeat (first | apply Kd.S_alloc | apply Kd.S_drewN | apply Kd.S_drew)); exact HO107.out) hb); have n1_ := Aside0.mk (below_step (by repeat (first | (with_reducible first | exact HB.out | apply below_alloc | apply pw_below_drewN | apply below_drew1) | exact HB.out)) hb); clear HO107; clear HB; have HO107 := n0_; have HB := n1_; clear n0_ n1_; (try clear hb); (try clear hb2); (try clear hk); (try clear hi)) | ((with_reducible refine gate_callee (f := 14) rfl ?_); refine goesL_ (some 21) rfl rfl Tryd.func14 (by kernel_rfl) rfl #[.string (⟨#[48, 48, 55]⟩ : ByteArray)] rfl (by (try simp only [List.map_toArray, List.map_cons, List.map_nil]); first | done | rfl | (simp only [List.length_drop, List.length_take]; rfl)) ?_; (with_reducible refine (words_Number.calls (⟨#[48, 48, 55]⟩ : ByteArray) t110 false _ ?side1 A3.out).mono ?_); (case side1 => exact ⟨hL_.out.below (by repeat (first | (with_reducible first | exact HB.out | apply below_alloc | apply pw_below_drewN | apply below_drew1) | exact HB.out))⟩); rintro e w20 ⟨rfl, hb⟩; refine ⟨_, rfl, ?_⟩; have n0_ := Aside0.mk (Kd.S_below (by (with_reducible repeat (first | apply Kd.S_alloc | apply Kd.S_drewN | apply Kd.S_drew)); exact HO107.out) hb); have n1_ := Aside0.mk (below_step (by repeat (first | (with_reducible first | exact HB.out | apply below_alloc | apply pw_below_drewN | apply below_drew1) | exact HB.out)) hb); clear HO107; clear HB; have HO107 := n0_; have HB := n1_; clear n0_ n1_; (try clear hb); (try clear hb2); (try clear hk); (try clear hi)) | ((with_reducible refine gate_callee (f := 15) rfl ?_); refine goesL_ (some 25) rfl rfl Tryd.func15 (by kernel_rfl) rfl #[.string (⟨#[51, 46, 46, 57]⟩ : ByteArray)] rfl (by (try simp only [List.map_toArray, List.map_cons, List.map_nil]); first | done | rfl | (simp only [List.length_drop, List.length_take]; rfl)) ?_; (with_reducible refine (words_Range.calls (⟨#[51, 46, 46, 57]⟩ : ByteArray) t112 t113 t114 _ ?side1 A4.out).mono ?_); (case side1 => exact ⟨hL_.out.below (by repeat (first | (with_reducible first | exact HB.out | apply below_alloc | apply pw_below_drewN | apply below_drew1) | exact HB.out))⟩); rintro e w21 ⟨rfl, hb⟩; refine ⟨_, rfl, ?_⟩; have n0_ := Aside0.mk (Kd.S_below (by (with_reducible repeat (first | apply Kd.S_alloc | apply Kd.S_drewN | apply Kd.S_drew)); exact HO107.out) hb); have n1_ := Aside0.mk (below_step (by repeat (first | (with_reducible first | exact HB.out | apply below_alloc | apply pw_below_drewN | apply below_drew1) | exact HB.out)) hb); clear HO107; clear HB; have HO107 := n0_; have HB := n1_; clear n0_ n1_; (try clear hb); (try clear hb2); (try clear hk); (try clear hi); obtain ⟨Ao22, co22, eo22⟩ := Kd.S_slice HO107.out; subst eo22; have p115 : 0 ≤ (0 : Int) := (by omega); have q115 : 0 < (t103.length : Int) := of_decide_eq_true (by first | (with_reducible assumption) | assumption); obtain ⟨ad115, A115_0, c115_0, e115, hx115_0, hl115_0, hi115_0⟩ := at_L3 (Kd.S_reads' HO107.out).2.2 0 p115 q115; cases e115; obtain ⟨ce115, hce115, hMe115, hcc115⟩ := Kd.S_get HO107.out [] 0 p115 (by first | exact q115 | exact of_decide_eq_true (by first | (with_reducible assumption) | assumption) | (have e_ := (Kd.S_reads' HO107.out).1; omega)); obtain ⟨ve115_0, rfl, ge115_0⟩ := hMe115; have hv115_0 := hcc115 0 _ rfl; rw [Nat.add_zero, show ((Kd.slice 32 k32)).sz = 1 from rfl, Nat.mul_one] at hv115_0; replace hv115_0 := Option.some.inj (hv115_0.symm.trans hx115_0); rw [hv115_0] at ge115_0; have HL115_0 := Aside0.mk (show Kd.R k32 32 _ _ _ _ (rd_L3 t103 0) from ge115_0); clear hv115_0 ge115_0; clear hcc115 hce115; have qi115 : (0 < t103.length) = True := eq_true (by omega); (try rw [show ((0 : Int)).toNat = 0 from rfl] at hx115_0); (try rw [Addr.add_zero'] at hx115_0); have HR115_0 := Aside0.mk hi115_0; have HC115_0 := Aside0.mk hl115_0; clear hi115_0 hl115_0; replace p115 := eq_true p115; replace q115 := eq_true q115) | ((with_reducible refine gate_dst (N := 46) rfl ?_); (try (refine gate_guard (by rfl) ?_; dsimp only)); refine Kd.R_lit k32 _ 32 ?hg (N := 46) ?hd (xs := ([(⟨(⟨#[97]⟩ : ByteArray), 1, 1⟩ : S32), (⟨(⟨#[98]⟩ : ByteArray), 1, 4⟩ : S32)] : List (S32))) (inner := [.string (⟨#[97]⟩ : ByteArray), .int .i64 1, .int .i64 1, .string (⟨#[98]⟩ : ByteArray), .int .i64 1, .int .i64 4]) (ok := fun _ => True) (okp := fun _ => True) ?hr ?hp (fun _ hk => hk) trivial (Below.refl _ _) (Nat.le_refl _) (by simp) ?_; (case hd => rfl); (case hg => rfl); (case hr => first | (go_simp; done) | (go_simp; rfl)); (case hp => exact (Reps.c3 (show Kd.M k32 _ _ _ (⟨(⟨#[97]⟩ : ByteArray), 1, 1⟩ : S32) [.string (⟨#[97]⟩ : ByteArray), .int .i64 1, .int .i64 1] from (k32_mkM _ _ _ (⟨(⟨#[97]⟩ : ByteArray), 1, 1⟩ : S32) )) (Reps.c3 (show Kd.M k32 _ _ _ (⟨(⟨#[98]⟩ : ByteArray), 1, 4⟩ : S32) [.string (⟨#[98]⟩ : ByteArray), .int .i64 1, .int .i64 4] from (k32_mkM _ _ _ (⟨(⟨#[98]⟩ : ByteArray), 1, 4⟩ : S32) )) (Reps.none _ _)))); intro v117 w23 ho24 hb hg_ hnew_; clear hg_ hnew_; (first | rw [← Ny116.out] at ho24 | (simp only [Int.reduceToNat] at ho24; rw [← Ny116.out] at ho24)); have n0_ := Aside0.mk (Kd.S_elder' (by (with_reducible repeat (first | apply Kd.S_alloc | apply Kd.S_drewN | apply Kd.S_drew)); exact HO107.out) (Kd.R_base ho24) hb); have n1_ := Aside0.mk (Kd.R_elder' (by (with_reducible repeat (first | apply Kd.R_alloc | apply Kd.R_drewN | apply Kd.R_drew)); exact HL115_0.out) (Kd.R_base ho24) hb); have n2_ := Aside0.mk (Kd.R_lower (Kd.R_new' ho24 (Kd.R_lt (by (with_reducible repeat (first | apply Kd.R_alloc | apply Kd.R_drewN | apply Kd.R_drew)); exact HL115_0.out))) (below_size (by repeat (first | (with_reducible first | exact HB.out | apply below_alloc | apply pw_below_drewN | apply below_drew1) | exact HB.out)))); have n3_ := Aside0.mk (Kd.C_below (by repeat (first | (with_reducible exact HR115_0.out) | (with_reducible refine Kd.C_alloc ?_ _) | (with_reducible refine Kd.C_drewN ?_ _) | (with_reducible refine Kd.C_drew ?_) | exact HR115_0.out)) hb); have n4_ := Aside0.mk (below_step (by repeat (first | (with_reducible first | exact HB.out | apply below_alloc | apply pw_below_drewN | apply below_drew1) | exact HB.out)) hb); clear HO107; clear HL115_0; clear HR115_0; clear HB; have HO107 := n0_; have HL115_0 := n1_; have HO118 := n2_; have HR115_0 := n3_; have HB := n4_; clear n0_ n1_ n2_ n3_ n4_; clear hb ho24; obtain ⟨Ao25, co25, eo25⟩ := Kd.R_slice HO118.out; subst eo25) | (go_at_call 16; (with_reducible refine (api_Word_16.calls k _ _ (rd_L3 t103 0) _ _ y116 true _ ?side1 ?side2 ?side3 ?side4 A9.out).mono ?_); (case side1 => repeat (first | exact (by repeat (first | (with_reducible exact HR115_0.out) | (with_reducible refine Kd.C_alloc ?_ _) | (with_reducible refine Kd.C_drewN ?_ _) | (with_reducible refine Kd.C_drew ?_) | exact HR115_0.out)) | (with_reducible refine Kd.C_alloc ?_ _) | (with_reducible refine Kd.C_drewN ?_ _) | (with_reducible refine Kd.C_drew ?_))); (case side2 => exact HC115_0.out); (case side3 => repeat (first | exact (Kd.R_reads' HO118.out).2.2 | (with_reducible refine Kd.C_alloc ?_ _) | (with_reducible refine Kd.C_drewN ?_ _) | (with_reducible refine Kd.C_drew ?_))); (case side4 => exact (Kd.R_reads' HO118.out).2.1); rintro e w' ⟨rfl, ⟨nd, rfl⟩⟩; have p120 : 0 ≤ (1 : Int) := (by omega); have q120 : 1 < (t103.length : Int) := of_decide_eq_true (by first | (with_reducible assumption) | assumption); obtain ⟨ad120, A120_0, c120_0, e120, hx120_0, hl120_0, hi120_0⟩ := at_L3 (Kd.S_reads' HO107.out).2.2 1 p120 q120; obtain rfl : ad115 = ad120 := (by injection e120); obtain ⟨ce120, hce120, hMe120, hcc120⟩ := Kd.S_get HO107.out [] 1 p120 (by first | exact q120 | exact of_decide_eq_true (by first | (with_reducible assumption) | assumption) | (have e_ := (Kd.S_reads' HO107.out).1; omega)); obtain ⟨ve120_0, rfl, ge120_0⟩ := hMe120; have hv120_0 := hcc120 0 _ rfl; rw [Nat.add_zero, show ((Kd.slice 32 k32)).sz = 1 from rfl, Nat.mul_one] at hv120_0; replace hv120_0 := Option.some.inj (hv120_0.symm.trans hx120_0); rw [hv120_0] at ge120_0; have HL120_0 := Aside0.mk (show Kd.R k32 32 _ _ _ _ (rd_L3 t103 1) from ge120_0); clear hv120_0 ge120_0; clear hcc120 hce120; (try simp only [show (1 : Int).toNat = 1 from rfl, Nat.reduceMul, Nat.reduceEqDiff, Go.Addr.add, ↓reduceIte] at hx120_0); have qi120 : (1 < t103.length) = True := eq_true (by omega); (try rw [show ((1 : Int)).toNat = 1 from rfl] at hx120_0); have HR120_0 := Aside0.mk hi120_0; have HC120_0 := Aside0.mk hl120_0; clear hi120_0 hl120_0; replace p120 := eq_true p120; replace q120 := eq_true q120) | ((with_reducible refine gate_dst (N := 54) rfl ?_); (try (refine gate_guard (by rfl) ?_; dsimp only)); refine Kd.R_lit k32 _ 32 ?hg (N := 54) ?hd (xs := ([(⟨(⟨#[100]⟩ : ByteArray), 3, 2⟩ : S32)] : List (S32))) (inner := [.string (⟨#[100]⟩ : ByteArray), .int .i64 3, .int .i64 2]) (ok := fun _ => True) (okp := fun _ => True) ?hr ?hp (fun _ hk => hk) trivial (Below.refl _ _) (Nat.le_refl _) (by simp) ?_; (case hd => rfl); (case hg => rfl); (case hr => first | (go_simp; done) | (go_simp; rfl)); (case hp => exact (Reps.c3 (show Kd.M k32 _ _ _ (⟨(⟨#[100]⟩ : ByteArray), 3, 2⟩ : S32) [.string (⟨#[100]⟩ : ByteArray), .int .i64 3, .int .i64 2] from (k32_mkM _ _ _ (⟨(⟨#[100]⟩ : ByteArray), 3, 2⟩ : S32) )) (Reps.none _ _))); intro v122 w26 ho27 hb hg_ hnew_; clear hg_ hnew_; (first | rw [← Ny121.out] at ho27 | (simp only [Int.reduceToNat] at ho27; rw [← Ny121.out] at ho27)); have n0_ := Aside0.mk (Kd.S_elder' (by (with_reducible repeat (first | apply Kd.S_alloc | apply Kd.S_drewN | apply Kd.S_drew)); exact HO107.out) (Kd.R_base ho27) hb); have n1_ := Aside0.mk (Kd.R_elder' (by (with_reducible repeat (first | apply Kd.R_alloc | apply Kd.R_drewN | apply Kd.R_drew)); exact HL115_0.out) (Kd.R_base ho27) hb); have n2_ := Aside0.mk (Kd.R_elder' (by (with_reducible repeat (first | apply Kd.R_alloc | apply Kd.R_drewN | apply Kd.R_drew)); exact HO118.out) (Kd.R_base ho27) hb); have n3_ := Aside0.mk (Kd.R_elder' (by (with_reducible repeat (first | apply Kd.R_alloc | apply Kd.R_drewN | apply Kd.R_drew)); exact HL120_0.out) (Kd.R_base ho27) hb); have n4_ := Aside0.mk (Kd.R_lower (Kd.R_new' (Kd.R_new' (Kd.R_new' ho27 (Kd.R_lt (by (with_reducible repeat (first | apply Kd.R_alloc | apply Kd.R_drewN | apply Kd.R_drew)); exact HL115_0.out))) (Kd.R_lt (by (with_reducible repeat (first | apply Kd.R_alloc | apply Kd.R_drewN | apply Kd.R_drew)); exact HO118.out))) (Kd.R_lt (by (with_reducible repeat (first | apply Kd.R_alloc | apply Kd.R_drewN | apply Kd.R_drew)); exact HL120_0.out))) (below_size (by repeat (first | (with_reducible first | exact HB.out | apply below_alloc | apply pw_below_drewN | apply below_drew1) | exact HB.out)))); have n5_ := Aside0.mk (Kd.C_below (by repeat (first | (with_reducible exact HR115_0.out) | (with_reducible refine Kd.C_alloc ?_ _) | (with_reducible refine Kd.C_drewN ?_ _) | (with_reducible refine Kd.C_drew ?_) | exact HR115_0.out)) hb); have n6_ := Aside0.mk (Kd.C_below (by repeat (first | (with_reducible exact HR120_0.out) | (with_reducible refine Kd.C_alloc ?_ _) | (with_reducible refine Kd.C_drewN ?_ _) | (with_reducible refine Kd.C_drew ?_) | exact HR120_0.out)) hb); have n7_ := Aside0.mk (below_step (by repeat (first | (with_reducible first | exact HB.out | apply below_alloc | apply pw_below_drewN | apply below_drew1) | exact HB.out)) hb); clear HO107; clear HL115_0; clear HO118; clear HL120_0; clear HR115_0; clear HR120_0; clear HB; have HO107 := n0_; have HL115_0 := n1_; have HO118 := n2_; have HL120_0 := n3_; have HO123 := n4_; have HR115_0 := n5_; have HR120_0 := n6_; have HB := n7_; clear n0_ n1_ n2_ n3_ n4_ n5_ n6_ n7_; clear hb ho27; obtain ⟨Ao28, co28, eo28⟩ := Kd.R_slice HO123.out; subst eo28) | (go_at_call 16; (with_reducible refine (api_Word_16.calls k _ _ (rd_L3 t103 1) _ _ y121 true _ ?side1 ?side2 ?side3 ?side4 A12.out).mono ?_); (case side1 => repeat (first | exact (by repeat (first | (with_reducible exact HR120_0.out) | (with_reducible refine Kd.C_alloc ?_ _) | (with_reducible refine Kd.C_drewN ?_ _) | (with_reducible refine Kd.C_drew ?_) | exact HR120_0.out)) | (with_reducible refine Kd.C_alloc ?_ _) | (with_reducible refine Kd.C_drewN ?_ _) | (with_reducible refine Kd.C_drew ?_))); (case side2 => exact HC120_0.out); (case side3 => repeat (first | exact (Kd.R_reads' HO123.out).2.2 | (with_reducible refine Kd.C_alloc ?_ _) | (with_reducible refine Kd.C_drewN ?_ _) | (with_reducible refine Kd.C_drew ?_))); (case side4 => exact (Kd.R_reads' HO123.out).2.1); rintro e w' ⟨rfl, ⟨nd, rfl⟩⟩))
                        go_ret
                        exact ⟨by first | rfl | (simp [errW_none, errW_some] <;> rfl) | (simp [*, errW_none, errW_some] <;> rfl), by repeat (first | (with_reducible first | exact HB.out | apply below_alloc | apply pw_below_drewN | apply below_drew1) | exact HB.out)⟩
                      · rw [if_neg c17] at H
                        have c17b0 : (t113 == 9) = false := beq_eq_false_iff_ne.mpr c17
                        have c17b1 : (t113 != 9) = true := bne_iff_ne.mpr c17
                        obtain rfl := Option.some.inj H
                        exact absurd hr_.out (by decide)
                    · rw [if_neg c16] at H
                      have c16b0 : (t112 == 3) = false := beq_eq_false_iff_ne.mpr c16
                      have c16b1 : (t112 != 3) = true := bne_iff_ne.mpr c16
                      obtain rfl := Option.some.inj H
                      exact absurd hr_.out (by decide)
              · replace c13 := Bool.eq_false_iff.mpr c13
                subst c13
                have H1 : (some false) = some r := by rw [if_neg (show ¬ (false = true) by decide)] at H; exact H
                clear H
                have H := H1
                clear H1
                obtain rfl := Option.some.inj H
                exact absurd hr_.out (by decide)
            · rw [if_neg c11] at H
              exact absurd H (by simp)
          · replace c10 := Bool.eq_false_iff.mpr c10
            subst c10
            have H1 : (some false) = some r := by rw [if_neg (show ¬ (false = true) by decide)] at H; exact H
            clear H
            have H := H1
            clear H1
            obtain rfl := Option.some.inj H
            exact absurd hr_.out (by decide)
        · rw [if_neg c8] at H
          exact absurd H (by simp)
      · rw [if_neg c7] at H
        have c7b0 : ((t103.length : Int) == 2) = false := beq_eq_false_iff_ne.mpr c7
        have c7b1 : ((t103.length : Int) != 2) = true := bne_iff_ne.mpr c7
        obtain rfl := Option.some.inj H
        exact absurd hr_.out (by decide)
    · rw [if_neg c6] at H
      have c6b0 : (t104 == 0) = false := beq_eq_false_iff_ne.mpr c6
      have c6b1 : (t104 != 0) = true := bne_iff_ne.mpr c6
      obtain rfl := Option.some.inj H
      exact absurd hr_.out (by decide)
  · rw [if_neg c5] at H
    have c5b0 : (t105 == 0) = false := beq_eq_false_iff_ne.mpr c5
    have c5b1 : (t105 != 0) = true := bne_iff_ne.mpr c5
    obtain rfl := Option.some.inj H
    exact absurd hr_.out (by decide)

def railplanlaw3_WordsExamples.Pure : Prop := ∃ k, railplanlaw3_WordsExamples.f k  = some true

end Go.Proofs.YtnmbljpifadipaaDoor.X
