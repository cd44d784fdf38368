/- Written by a program of this claim. Proved: each Go function named below, called with any arguments at which its Lean function answers, returns that answer; or, of a law, its given statement. -/
import Derived.Test.YtolckgeffmaakaaX0
import Derived.Test.YtolckgeffmaakaaX3
namespace Go.Proofs.Ytolckgeffmaakaa.X
open Go.RowKit Go.Proofs.YtolckgeffmaakaaW Go.Proofs.YtolckgeffmaakaaW.PrintWords Go.Proofs.YtolckgeffmaakaaW.PrintLast Go.Proofs.YtolckgeffmaakaaW.PrintMore
attribute [local go_sem] max2_int min2_int max_two min_two max_three min_three max_four min_four   -- for this text's walks alone
set_option linter.unusedVariables false
set_option linter.unusedSimpArgs false

/-! ### railplanlaw41_damaged: function 18 -/
def railplanlaw41_damaged.f (a0 : ByteArray) (a1 : Int) (a2 : Int) (a3 : Int) : Option (ByteArray) := if (a0.size : Int) = 0 then (some (strOfNums (([(a3) % 256] : List Int)))) else ((railplankeep_Pick.f a2 (a0.size : Int)).bind fun t233 => ((railplankeep_Pick.f a1 3).bind fun t234 => (if t234 = 0 then (if 0 ≤ t233 then (if t233 ≤ (a0.size : Int) then ((some (([(a3) % 256] : List Int) : List Int)).bind fun y235 => (if (a0.extract 0 (t233 : Int).toNat).size + (strOfNums y235).size ≤ 9223372036854775807 then (if 0 ≤ (wrap64 (t233 + 1)) then (if (wrap64 (t233 + 1)) ≤ (a0.size : Int) then (if (a0.extract 0 (t233 : Int).toNat).size + (strOfNums y235).size + ((a0.extract ((wrap64 (t233 + 1)) : Int).toNat a0.size).size) ≤ 9223372036854775807 then (some (((a0.extract 0 (t233 : Int).toNat) ++ (strOfNums y235)) ++ (a0.extract ((wrap64 (t233 + 1)) : Int).toNat a0.size))) else (none)) else (none)) else (none)) else (none))) else (none)) else (none)) else (if t234 = 1 then (if 0 ≤ t233 then (if t233 ≤ (a0.size : Int) then (some (a0.extract 0 (t233 : Int).toNat)) else (none)) else (none)) else (if 0 ≤ t233 then (if t233 ≤ (a0.size : Int) then ((some (([(a3) % 256] : List Int) : List Int)).bind fun y238 => (if (a0.extract 0 (t233 : Int).toNat).size + (strOfNums y238).size ≤ 9223372036854775807 then (if (a0.extract 0 (t233 : Int).toNat).size + (strOfNums y238).size + (a0.extract (t233 : Int).toNat a0.size).size ≤ 9223372036854775807 then (some (((a0.extract 0 (t233 : Int).toNat) ++ (strOfNums y238)) ++ (a0.extract (t233 : Int).toNat a0.size))) else (none)) else (none))) else (none)) else (none))))))
def railplanlaw41_damaged.T6 : Bool × List (List Nat × List Nat) := (true, [([], []), ([], []), ([0, 1], [0, 1]), ([], []), ([3], [3]), ([4], [4]), ([5], [5]), ([2, 6], [2, 6]), ([], []), ([], []), ([9], [9]), ([8, 10], [8, 10]), ([7, 11], [7, 11]), ([12, 0, 1, 2, 3, 4, 5, 6, 7, 8, 9, 10, 11, 12], [12])])
def railplanlaw41_damaged.B6 : List Nat := [0, 0, 3, 0, 8, 24, 56, 127, 0, 0, 512, 1792, 4095, 8191]
theorem railplanlaw41_damaged.tab6 : rtab .any (opsOf Try.f18 6) = railplanlaw41_damaged.T6 := by kernel_rfl
theorem railplanlaw41_damaged.bits6 : waitsOk railplanlaw41_damaged.T6.2 railplanlaw41_damaged.B6 = true := by kernel_rfl
def railplanlaw41_damaged.T9 : Bool × List (List Nat × List Nat) := (true, [([], []), ([], []), ([0, 1], [0, 1]), ([], []), ([3], [3]), ([4], [4]), ([5], [5]), ([2, 6], [2, 6]), ([], []), ([], []), ([8, 9], [8, 9]), ([7, 10], [7, 10]), ([11, 0, 1, 2, 3, 4, 5, 6, 7, 8, 9, 10, 11], [11])])
def railplanlaw41_damaged.B9 : List Nat := [0, 0, 3, 0, 8, 24, 56, 127, 0, 0, 768, 2047, 4095]
theorem railplanlaw41_damaged.tab9 : rtab .any (opsOf Try.f18 9) = railplanlaw41_damaged.T9 := by kernel_rfl
theorem railplanlaw41_damaged.bits9 : waitsOk railplanlaw41_damaged.T9.2 railplanlaw41_damaged.B9 = true := by kernel_rfl
set_option maxHeartbeats 8000000 in
set_option maxRecDepth 100000 in
theorem railplanlaw41_damaged.calls (a0 : ByteArray) (a1 : Int) (a2 : Int) (a3 : Int) (r : ByteArray) (w : World) (h : railplanlaw41_damaged.f a0 a1 a2 a3 = some r) :
    Calls Try.prog 18 #[.string a0, .int .i64 a1, .int .i64 a2, .int .i64 a3] w fun e w' => e = .returned (.string r) ∧ Below w.heap.size w w' := by
  have HB := Aside0.mk (Below.refl w.heap.size w)
  have H : (if (a0.size : Int) = 0 then (some (strOfNums (([(a3) % 256] : List Int)))) else ((railplankeep_Pick.f a2 (a0.size : Int)).bind fun t233 => ((railplankeep_Pick.f a1 3).bind fun t234 => (if t234 = 0 then (if 0 ≤ t233 then (if t233 ≤ (a0.size : Int) then ((some (([(a3) % 256] : List Int) : List Int)).bind fun y235 => (if (a0.extract 0 (t233 : Int).toNat).size + (strOfNums y235).size ≤ 9223372036854775807 then (if 0 ≤ (wrap64 (t233 + 1)) then (if (wrap64 (t233 + 1)) ≤ (a0.size : Int) then (if (a0.extract 0 (t233 : Int).toNat).size + (strOfNums y235).size + ((a0.extract ((wrap64 (t233 + 1)) : Int).toNat a0.size).size) ≤ 9223372036854775807 then (some (((a0.extract 0 (t233 : Int).toNat) ++ (strOfNums y235)) ++ (a0.extract ((wrap64 (t233 + 1)) : Int).toNat a0.size))) else (none)) else (none)) else (none)) else (none))) else (none)) else (none)) else (if t234 = 1 then (if 0 ≤ t233 then (if t233 ≤ (a0.size : Int) then (some (a0.extract 0 (t233 : Int).toNat)) else (none)) else (none)) else (if 0 ≤ t233 then (if t233 ≤ (a0.size : Int) then ((some (([(a3) % 256] : List Int) : List Int)).bind fun y238 => (if (a0.extract 0 (t233 : Int).toNat).size + (strOfNums y238).size ≤ 9223372036854775807 then (if (a0.extract 0 (t233 : Int).toNat).size + (strOfNums y238).size + (a0.extract (t233 : Int).toNat a0.size).size ≤ 9223372036854775807 then (some (((a0.extract 0 (t233 : Int).toNat) ++ (strOfNums y238)) ++ (a0.extract (t233 : Int).toNat a0.size))) else (none)) else (none))) else (none)) else (none))))))) = some r := h
  clear h
  by_cases c5 : (a0.size : Int) = 0
  · rw [if_pos c5] at H
    have c5b0 : ((a0.size : Int) == 0) = true := beq_iff_eq.mpr c5
    have c5b1 : ((a0.size : Int) != 0) = false := bne_eq_false_iff_eq.mpr c5
    clear c5
    obtain ⟨y230, hy230⟩ : ∃ y_ : List Int, y_ = (([(a3) % 256] : List Int)) := ⟨_, rfl⟩
    replace H : (some (strOfNums y230)) = some r := by first | (rw [hy230]; with_reducible exact H) | (have H2_ := (Option.bind_some _ _).symm.trans H; rw [hy230]; with_reducible exact H2_) | (have H2_ := (Option.bind_some _ _).symm.trans H; with_reducible exact H2_) | with_reducible exact H | (rw [hy230]; exact H) | exact H
    have Ny230 := Aside0.mk hy230
    clear hy230
    obtain rfl := Option.some.inj H
    simp only [Option.some.injEq, Prod.mk.injEq] at H
    obtain ⟨rfl⟩ := H
    go_enter Try.func18, Try.ntmps18
    go_wp2_with (first | ((with_reducible refine gate_dst (N := 15) rfl ?_); refine Kd.R_lit (Kd.int .u8) _ 5 ?hg (N := 15) ?hd (xs := ([(a3) % 256] : List Int)) (inner := [.int .u8 ((a3) % 256)]) (ok := fun _ => True) (okp := fun _ => True) ?hr ?hp (fun _ hk => hk) trivial (Below.refl _ _) (Nat.le_refl _) (by simp) ?_; (case hd => rfl); (case hg => rfl); (case hr => first | (go_simp; done) | (go_simp; rfl)); (case hp => exact (Reps.one (show Kd.M (Kd.int .u8) _ _ _ ((a3) % 256) [.int .u8 ((a3) % 256)] from rfl) (Reps.none _ _))); intro v231 w6 ho7 hb hg_ hnew_; clear hg_ hnew_; (first | rw [← Ny230.out] at ho7 | (simp only [Int.reduceToNat] at ho7; rw [← Ny230.out] at ho7)); have n0_ := Aside0.mk (Kd.R_lower ho7 (below_size (by repeat (first | (with_reducible first | exact HB.out | apply below_alloc | apply pw_below_drewN | apply below_drew1) | exact HB.out)))); have n1_ := Aside0.mk (below_step (by repeat (first | (with_reducible first | exact HB.out | apply below_alloc | apply pw_below_drewN | apply below_drew1) | exact HB.out)) hb); clear HB; have HO232 := n0_; have HB := n1_; clear n0_ n1_; clear hb ho7; have hcv8 := own_string (P := Try.prog) Try.underlying58 Try.underlying5 Try.underlying9 (Kd.own_of_R HO232.out)))
    go_ret
    exact ⟨by first | rfl | (simp [errW_none, errW_some] <;> rfl) | (simp [*, errW_none, errW_some] <;> rfl), by repeat (first | (with_reducible first | exact HB.out | apply below_alloc | apply pw_below_drewN | apply below_drew1) | exact HB.out)⟩
  · rw [if_neg c5] at H
    have c5b0 : ((a0.size : Int) == 0) = false := beq_eq_false_iff_ne.mpr c5
    have c5b1 : ((a0.size : Int) != 0) = true := bne_iff_ne.mpr c5
    replace H := Option.bind_eq_some_iff.mp H
    obtain ⟨t233, A90, H⟩ := H
    replace H : ((railplankeep_Pick.f a1 3).bind fun t234 => (if t234 = 0 then (if 0 ≤ t233 then (if t233 ≤ (a0.size : Int) then ((some (([(a3) % 256] : List Int) : List Int)).bind fun y235 => (if (a0.extract 0 (t233 : Int).toNat).size + (strOfNums y235).size ≤ 9223372036854775807 then (if 0 ≤ (wrap64 (t233 + 1)) then (if (wrap64 (t233 + 1)) ≤ (a0.size : Int) then (if (a0.extract 0 (t233 : Int).toNat).size + (strOfNums y235).size + ((a0.extract ((wrap64 (t233 + 1)) : Int).toNat a0.size).size) ≤ 9223372036854775807 then (some (((a0.extract 0 (t233 : Int).toNat) ++ (strOfNums y235)) ++ (a0.extract ((wrap64 (t233 + 1)) : Int).toNat a0.size))) else (none)) else (none)) else (none)) else (none))) else (none)) else (none)) else (if t234 = 1 then (if 0 ≤ t233 then (if t233 ≤ (a0.size : Int) then (some (a0.extract 0 (t233 : Int).toNat)) else (none)) else (none)) else (if 0 ≤ t233 then (if t233 ≤ (a0.size : Int) then ((some (([(a3) % 256] : List Int) : List Int)).bind fun y238 => (if (a0.extract 0 (t233 : Int).toNat).size + (strOfNums y238).size ≤ 9223372036854775807 then (if (a0.extract 0 (t233 : Int).toNat).size + (strOfNums y238).size + (a0.extract (t233 : Int).toNat a0.size).size ≤ 9223372036854775807 then (some (((a0.extract 0 (t233 : Int).toNat) ++ (strOfNums y238)) ++ (a0.extract (t233 : Int).toNat a0.size))) else (none)) else (none))) else (none)) else (none))))) = some r := H
    have A9 := Aside0.mk A90
    clear A90
    replace H := Option.bind_eq_some_iff.mp H
    obtain ⟨t234, A100, H⟩ := H
    replace H : (if t234 = 0 then (if 0 ≤ t233 then (if t233 ≤ (a0.size : Int) then ((some (([(a3) % 256] : List Int) : List Int)).bind fun y235 => (if (a0.extract 0 (t233 : Int).toNat).size + (strOfNums y235).size ≤ 9223372036854775807 then (if 0 ≤ (wrap64 (t233 + 1)) then (if (wrap64 (t233 + 1)) ≤ (a0.size : Int) then (if (a0.extract 0 (t233 : Int).toNat).size + (strOfNums y235).size + ((a0.extract ((wrap64 (t233 + 1)) : Int).toNat a0.size).size) ≤ 9223372036854775807 then (some (((a0.extract 0 (t233 : Int).toNat) ++ (strOfNums y235)) ++ (a0.extract ((wrap64 (t233 + 1)) : Int).toNat a0.size))) else (none)) else (none)) else (none)) else (none))) else (none)) else (none)) else (if t234 = 1 then (if 0 ≤ t233 then (if t233 ≤ (a0.size : Int) then (some (a0.extract 0 (t233 : Int).toNat)) else (none)) else (none)) else (if 0 ≤ t233 then (if t233 ≤ (a0.size : Int) then ((some (([(a3) % 256] : List Int) : List Int)).bind fun y238 => (if (a0.extract 0 (t233 : Int).toNat).size + (strOfNums y238).size ≤ 9223372036854775807 then (if (a0.extract 0 (t233 : Int).toNat).size + (strOfNums y238).size + (a0.extract (t233 : Int).toNat a0.size).size ≤ 9223372036854775807 then (some (((a0.extract 0 (t233 : Int).toNat) ++ (strOfNums y238)) ++ (a0.extract (t233 : Int).toNat a0.size))) else (none)) else (none))) else (none)) else (none)))) = some r := H
    have A10 := Aside0.mk A100
    clear A100
    by_cases c11 : t234 = 0
    · rw [if_pos c11] at H
      have c11b0 : (t234 == 0) = true := beq_iff_eq.mpr c11
      have c11b1 : (t234 != 0) = false := bne_eq_false_iff_eq.mpr c11
      clear c11
      by_cases c12 : 0 ≤ t233
      · rw [if_pos c12] at H
        have c12b0 := eq_true c12
        have c12b1 : decide (0 ≤ t233) = true := decide_eq_true c12
        clear c12
        by_cases c13 : t233 ≤ (a0.size : Int)
        · rw [if_pos c13] at H
          have c13b0 := eq_true c13
          have c13b1 : decide (t233 ≤ (a0.size : Int)) = true := decide_eq_true c13
          clear c13
          obtain ⟨y235, hy235⟩ : ∃ y_ : List Int, y_ = (([(a3) % 256] : List Int)) := ⟨_, rfl⟩
          replace H : (if (a0.extract 0 (t233 : Int).toNat).size + (strOfNums y235).size ≤ 9223372036854775807 then (if 0 ≤ (wrap64 (t233 + 1)) then (if (wrap64 (t233 + 1)) ≤ (a0.size : Int) then (if (a0.extract 0 (t233 : Int).toNat).size + (strOfNums y235).size + ((a0.extract ((wrap64 (t233 + 1)) : Int).toNat a0.size).size) ≤ 9223372036854775807 then (some (((a0.extract 0 (t233 : Int).toNat) ++ (strOfNums y235)) ++ (a0.extract ((wrap64 (t233 + 1)) : Int).toNat a0.size))) else (none)) else (none)) else (none)) else (none)) = some r := by first | (rw [hy235]; with_reducible exact H) | (have H2_ := (Option.bind_some _ _).symm.trans H; rw [hy235]; with_reducible exact H2_) | (have H2_ := (Option.bind_some _ _).symm.trans H; with_reducible exact H2_) | with_reducible exact H | (rw [hy235]; exact H) | exact H
          have Ny235 := Aside0.mk hy235
          clear hy235
          by_cases c14 : (a0.extract 0 (t233 : Int).toNat).size + (strOfNums y235).size ≤ 9223372036854775807
          · rw [if_pos c14] at H
            have c14b0 := eq_true c14
            have c14b1 : decide ((a0.extract 0 (t233 : Int).toNat).size + (strOfNums y235).size ≤ 9223372036854775807) = true := decide_eq_true c14
            try have c14b2 : (9223372036854775807 < (a0.extract 0 (t233 : Int).toNat).size + (strOfNums y235).size) = False := eq_false (Nat.not_lt.2 c14)
            obtain ⟨ji15, hji15⟩ : ∃ j_ : Int, (wrap64 (t233 + 1)) = j_ := ⟨_, rfl⟩
            replace H : (if 0 ≤ (ji15) then (if (ji15) ≤ (a0.size : Int) then (if (a0.extract 0 (t233 : Int).toNat).size + (strOfNums y235).size + ((a0.extract ((ji15) : Int).toNat a0.size).size) ≤ 9223372036854775807 then (some (((a0.extract 0 (t233 : Int).toNat) ++ (strOfNums y235)) ++ (a0.extract ((ji15) : Int).toNat a0.size))) else (none)) else (none)) else (none)) = some r := by first | (rw [hji15] at H; exact H) | (simp only [hji15] at H ⊢; exact H)
            (try rw [hji15] at A9)
            (try rw [hji15] at A10)
            have hji15w : (IntKind.i64.wrap (t233 + 1)) = ji15 := (i64_w _).trans hji15
            by_cases c16 : 0 ≤ (ji15)
            · rw [if_pos c16] at H
              have c16b0 := eq_true c16
              have c16b1 : decide (0 ≤ (ji15)) = true := decide_eq_true c16
              clear c16
              by_cases c17 : (ji15) ≤ (a0.size : Int)
              · rw [if_pos c17] at H
                have c17b0 := eq_true c17
                have c17b1 : decide ((ji15) ≤ (a0.size : Int)) = true := decide_eq_true c17
                clear c17
                by_cases c18 : (a0.extract 0 (t233 : Int).toNat).size + (strOfNums y235).size + ((a0.extract ((ji15) : Int).toNat a0.size).size) ≤ 9223372036854775807
                · rw [if_pos c18] at H
                  have c18b0 := eq_true c18
                  have c18b1 : decide ((a0.extract 0 (t233 : Int).toNat).size + (strOfNums y235).size + ((a0.extract ((ji15) : Int).toNat a0.size).size) ≤ 9223372036854775807) = true := decide_eq_true c18
                  try have c18b2 : (9223372036854775807 < (a0.extract 0 (t233 : Int).toNat).size + (strOfNums y235).size + ((a0.extract ((ji15) : Int).toNat a0.size).size)) = False := eq_false (Nat.not_lt.2 c18)
                  obtain rfl := Option.some.inj H
                  simp only [Option.some.injEq, Prod.mk.injEq] at H
                  obtain ⟨rfl⟩ := H
                  go_enter Try.func18, Try.ntmps18
                  try go_wp2_with (first | ((with_reducible refine gate_callee (f := 14) rfl ?_); refine goesL_ (some 20) rfl rfl Try.func14 (by kernel_rfl) rfl #[.int .i64 a2, .int .i64 (a0.size : Int)] rfl (by (try simp only [List.map_toArray, List.map_cons, List.map_nil]); first | done | rfl | (simp only [List.length_drop, List.length_take]; rfl)) ?_; (with_reducible refine (railplankeep_Pick.calls a2 (a0.size : Int) t233 _ A9.out).mono ?_); rintro e w' ⟨rfl, ⟨nd, rfl⟩⟩; refine ⟨_, rfl, ?_⟩) | ((with_reducible refine gate_callee (f := 14) rfl ?_); refine goesL_ (some 22) rfl rfl Try.func14 (by kernel_rfl) rfl #[.int .i64 a1, .int .i64 3] rfl (by (try simp only [List.map_toArray, List.map_cons, List.map_nil]); first | done | rfl | (simp only [List.length_drop, List.length_take]; rfl)) ?_; (with_reducible refine (railplankeep_Pick.calls a1 3 t234 _ A10.out).mono ?_); rintro e w' ⟨rfl, ⟨nd, rfl⟩⟩; refine ⟨_, rfl, ?_⟩))
                  generalize hq_ : World.drewN w _ = w19
                  have n0_ : Aside0 (Below w.heap.size w w19) := ⟨by rw [← hq_]; exact (by repeat (first | (with_reducible first | exact HB.out | apply below_alloc | apply pw_below_drewN | apply below_drew1) | exact HB.out))⟩
                  clear HB hq_
                  have HB := n0_
                  clear n0_
                  have n0_ := Aside0.mk (below_drew1 HB.out)
                  clear HB
                  have HB := n0_
                  clear n0_
                  refine start_ (n := 14) (S := fun w' => True) (ds := []) #[false, false, false, false, false, false, false, false, false, false, false, false, false, false] (by kernel_rfl) rfl rfl trivial (fun hHeld => ?_); refine with_tabW railplanlaw41_damaged.tab6 railplanlaw41_damaged.bits6 (fun HT_ HW_ => ?_)
                  generalize w19.drew = w20 at HB hHeld ⊢
                  refine pure_ (i := 0) (N := some 25) (v := ?_) (a' := ?_) #[true, false, false, false, false, false, false, false, false, false, false, false, false, false] rfl rfl (any_of HT_.out (by kernel_rfl)) (fun _ _ _ h => h) (Or.inl ⟨by rfl, ?_⟩) ?_ ?_
                  rotate_left
                  · intro w'
                    go_simp
                    with_reducible rfl
                  rotate_left
                  · simp only [Act.put, List.setIfInBounds_toArray, List.set_cons_zero, List.set_cons_succ, i64_w, i32_w]
                    rfl
                  refine pure_ (i := 1) (N := some 26) (v := ?_) (a' := ?_) #[true, true, false, false, false, false, false, false, false, false, false, false, false, false] rfl rfl (any_of HT_.out (by kernel_rfl)) (fun _ _ _ h => h) (Or.inl ⟨by rfl, ?_⟩) ?_ ?_
                  rotate_left
                  · intro w'
                    go_simp
                    with_reducible rfl
                  rotate_left
                  · simp only [Act.put, List.setIfInBounds_toArray, List.set_cons_zero, List.set_cons_succ, i64_w, i32_w]
                    rfl
                  refine pure_ (i := 2) (N := some 27) (v := ?_) (a' := ?_) #[true, true, true, false, false, false, false, false, false, false, false, false, false, false] rfl rfl (any_of HT_.out (by kernel_rfl)) (fun _ _ _ h => h) (Or.inl ⟨by rfl, ?_⟩) ?_ ?_
                  rotate_left
                  · intro w'
                    go_simp
                    with_reducible rfl
                  rotate_left
                  · simp only [Act.put, List.setIfInBounds_toArray, List.set_cons_zero, List.set_cons_succ, i64_w, i32_w]
                    rfl
                  refine pure_ (i := 3) (N := some 28) (v := ?_) (a' := ?_) #[true, true, true, true, false, false, false, false, false, false, false, false, false, false] rfl rfl (any_of HT_.out (by kernel_rfl)) (fun _ _ _ h => h) (Or.inl ⟨by rfl, ?_⟩) ?_ ?_
                  rotate_left
                  · intro w'
                    go_simp
                    with_reducible rfl
                  rotate_left
                  · simp only [Act.put, List.setIfInBounds_toArray, List.set_cons_zero, List.set_cons_succ, i64_w, i32_w]
                    rfl
                  refine pure_ (i := 4) (N := some 29) (v := ?_) (a' := ?_) #[true, true, true, true, true, false, false, false, false, false, false, false, false, false] rfl rfl (any_of HT_.out (by kernel_rfl)) (fun _ _ _ h => h) (Or.inl ⟨by rfl, ?_⟩) ?_ ?_
                  rotate_left
                  · intro w'
                    go_simp
                    with_reducible rfl
                  rotate_left
                  · simp only [Act.put, List.setIfInBounds_toArray, List.set_cons_zero, List.set_cons_succ, i64_w, i32_w]
                    rfl
                  refine pure_ (i := 8) (N := some 33) (v := ?_) (a' := ?_) #[true, true, true, true, true, false, false, false, true, false, false, false, false, false] rfl rfl (any_of HT_.out (by kernel_rfl)) (fun _ _ _ h => h) (Or.inl ⟨by rfl, ?_⟩) ?_ ?_
                  rotate_left
                  · intro w'
                    go_simp
                    with_reducible rfl
                  rotate_left
                  · simp only [Act.put, List.setIfInBounds_toArray, List.set_cons_zero, List.set_cons_succ, i64_w, i32_w]
                    rfl
                  refine pure_ (i := 9) (N := some 34) (v := ?_) (a' := ?_) #[true, true, true, true, true, false, false, false, true, true, false, false, false, false] rfl rfl (any_of HT_.out (by kernel_rfl)) (fun _ _ _ h => h) (Or.inl ⟨by rfl, ?_⟩) ?_ ?_
                  rotate_left
                  · intro w'
                    go_simp
                    with_reducible rfl
                  rotate_left
                  · simp only [Act.put, List.setIfInBounds_toArray, List.set_cons_zero, List.set_cons_succ, i64_w, i32_w]
                    rfl
                  refine pure_ (i := 10) (N := some 35) (v := ?_) (a' := ?_) #[true, true, true, true, true, false, false, false, true, true, true, false, false, false] rfl rfl (any_of HT_.out (by kernel_rfl)) (fun _ _ _ h => h) (Or.inl ⟨by rfl, ?_⟩) ?_ ?_
                  rotate_left
                  · intro w'
                    go_simp
                    with_reducible rfl
                  rotate_left
                  · simp only [Act.put, List.setIfInBounds_toArray, List.set_cons_zero, List.set_cons_succ, i64_w, i32_w]
                    rfl
                  refine pure_ (i := 11) (N := some 36) (v := ?_) (a' := ?_) #[true, true, true, true, true, false, false, false, true, true, true, true, false, false] rfl rfl (any_of HT_.out (by kernel_rfl)) (fun _ _ _ h => h) (Or.inl ⟨by rfl, ?_⟩) ?_ ?_
                  rotate_left
                  · intro w'
                    go_simp
                    with_reducible rfl
                  rotate_left
                  · simp only [Act.put, List.setIfInBounds_toArray, List.set_cons_zero, List.set_cons_succ, i64_w, i32_w]
                    rfl
                  refine one_ (i := 5) (N := some 30) #[true, true, true, true, true, true, false, false, true, true, true, true, false, false] rfl rfl (one_of HT_.out (by kernel_rfl)) (by decide) (fun K hK => ?_)
                  refine Kd.R_lit_step (Kd.int .u8) _ 5 ?hg (N := 30) ?hd (xs := ([(a3) % 256] : List Int)) (inner := [.int .u8 ((a3) % 256)]) (ok := fun _ => True) (okp := fun _ => True) ?hr ?hp (fun _ hk => hk) trivial (Below.refl _ _) (Nat.le_refl _) (by simp) ?_; (case hd => rfl); (case hg => rfl); (case hr => first | (go_simp; done) | (go_simp; rfl)); (case hp => exact (Reps.one (show Kd.M (Kd.int .u8) _ _ _ ((a3) % 256) [.int .u8 ((a3) % 256)] from rfl) (Reps.none _ _)))
                  intro v236 w21 ho22 hb hg_ hnew_
                  clear hg_ hnew_
                  (first | rw [← Ny235.out] at ho22 | (simp only [Int.reduceToNat] at ho22; rw [← Ny235.out] at ho22))
                  have n0_ := Aside0.mk (Kd.R_lower ho22 (below_size (by repeat (first | (with_reducible first | exact HB.out | apply below_alloc | apply pw_below_drewN | apply below_drew1) | exact HB.out))))
                  have n1_ := Aside0.mk (below_step (by repeat (first | (with_reducible first | exact HB.out | apply below_alloc | apply pw_below_drewN | apply below_drew1) | exact HB.out)) hb)
                  clear HB
                  have HO237 := n0_
                  have HB := n1_
                  clear n0_ n1_
                  clear hb ho22
                  refine hK.out _ _ trivial (fun hHeld => ?_)
                  clear hK K
                  refine norm_ (a' := ?_) ?_ ?_
                  rotate_left
                  · show Act.put _ (some 30) _ = _
                    simp only [Act.put, List.setIfInBounds_toArray, List.set_cons_zero, List.set_cons_succ, i64_w, i32_w]
                    rfl
                  refine one_ (i := 6) (N := some 31) #[true, true, true, true, true, true, true, false, true, true, true, true, false, false] rfl rfl (one_of HT_.out (by kernel_rfl)) (by decide) (fun K hK => ?_)
                  have hcv23 := own_string (P := Try.prog) Try.underlying58 Try.underlying5 Try.underlying9 (Kd.own_of_R HO237.out)
                  refine value_ (w1 := ?_) (v := ?_) (by rfl) rfl ?_ ?_
                  rotate_left 2
                  · go_simp
                    constructor
                    · rfl
                    · rfl
                  clear hcv23
                  refine hK.out _ _ trivial (fun hHeld => ?_)
                  clear hK K
                  refine norm_ (a' := ?_) ?_ ?_
                  rotate_left
                  · show Act.put _ (some 31) _ = _
                    simp only [Act.put, List.setIfInBounds_toArray, List.set_cons_zero, List.set_cons_succ, i64_w, i32_w]
                    rfl
                  refine pure_ (i := 7) (N := some 32) (v := ?_) (a' := ?_) #[true, true, true, true, true, true, true, true, true, true, true, true, false, false] rfl rfl (any_of HT_.out (by kernel_rfl)) (fun _ _ _ h => h) (Or.inl ⟨by rfl, ?_⟩) ?_ ?_
                  rotate_left
                  · intro w'
                    go_simp
                    first | with_reducible rfl | (rw [if_neg (by simp only [decide_eq_true_eq, eq_iff_iff, iff_true, iff_false, ByteArray.size_append, ByteArray.size_extract] at *; omega)])
                  rotate_left
                  · simp only [Act.put, List.setIfInBounds_toArray, List.set_cons_zero, List.set_cons_succ, i64_w, i32_w]
                    rfl
                  refine pure_ (i := 12) (N := some 37) (v := ?_) (a' := ?_) #[true, true, true, true, true, true, true, true, true, true, true, true, true, false] rfl rfl (any_of HT_.out (by kernel_rfl)) (fun _ _ _ h => h) (Or.inl ⟨by rfl, ?_⟩) ?_ ?_
                  rotate_left
                  · intro w'
                    go_simp
                    first | with_reducible rfl | (rw [if_neg (by simp only [decide_eq_true_eq, eq_iff_iff, iff_true, iff_false, ByteArray.size_append, ByteArray.size_extract] at *; omega)])
                  rotate_left
                  · simp only [Act.put, List.setIfInBounds_toArray, List.set_cons_zero, List.set_cons_succ, i64_w, i32_w]
                    rfl
                  refine pure_ (i := 13) (N := some 8) (v := ?_) (a' := ?_) #[true, true, true, true, true, true, true, true, true, true, true, true, true, true] rfl rfl (any_of HT_.out (by kernel_rfl)) (fun _ _ _ h => h) (Or.inl ⟨by rfl, ?_⟩) ?_ ?_
                  rotate_left
                  · intro w'
                    go_simp
                    with_reducible rfl
                  rotate_left
                  · simp only [Act.put, List.setIfInBounds_toArray, List.set_cons_zero, List.set_cons_succ, i64_w, i32_w]
                    rfl
                  refine done_ (done_of HT_.out (by kernel_rfl)) ?_
                  try go_wp2
                  go_ret
                  exact ⟨by first | rfl | (simp [errW_none, errW_some] <;> rfl) | (simp only [← hji15]; first | rfl | (simp [errW_none, errW_some] <;> rfl)) | (simp [*, errW_none, errW_some] <;> rfl), by repeat (first | (with_reducible first | exact HB.out | apply below_alloc | apply pw_below_drewN | apply below_drew1) | exact HB.out)⟩
                · rw [if_neg c18] at H
                  exact absurd H (by simp)
              · rw [if_neg c17] at H
                exact absurd H (by simp)
            · rw [if_neg c16] at H
              exact absurd H (by simp)
          · rw [if_neg c14] at H
            exact absurd H (by simp)
        · rw [if_neg c13] at H
          exact absurd H (by simp)
      · rw [if_neg c12] at H
        exact absurd H (by simp)
    · rw [if_neg c11] at H
      have c11b0 : (t234 == 0) = false := beq_eq_false_iff_ne.mpr c11
      have c11b1 : (t234 != 0) = true := bne_iff_ne.mpr c11
      by_cases c24 : t234 = 1
      · rw [if_pos c24] at H
        have c24b0 : (t234 == 1) = true := beq_iff_eq.mpr c24
        have c24b1 : (t234 != 1) = false := bne_eq_false_iff_eq.mpr c24
        clear c24
        by_cases c25 : 0 ≤ t233
        · rw [if_pos c25] at H
          have c25b0 := eq_true c25
          have c25b1 : decide (0 ≤ t233) = true := decide_eq_true c25
          clear c25
          by_cases c26 : t233 ≤ (a0.size : Int)
          · rw [if_pos c26] at H
            have c26b0 := eq_true c26
            have c26b1 : decide (t233 ≤ (a0.size : Int)) = true := decide_eq_true c26
            clear c26
            obtain rfl := Option.some.inj H
            simp only [Option.some.injEq, Prod.mk.injEq] at H
            obtain ⟨rfl⟩ := H
            go_enter Try.func18, Try.ntmps18
            go_wp2_with (first | ((with_reducible refine gate_callee (f := 14) rfl ?_); refine goesL_ (some 20) rfl rfl Try.func14 (by kernel_rfl) rfl #[.int .i64 a2, .int .i64 (a0.size : Int)] rfl (by (try simp only [List.map_toArray, List.map_cons, List.map_nil]); first | done | rfl | (simp only [List.length_drop, List.length_take]; rfl)) ?_; (with_reducible refine (railplankeep_Pick.calls a2 (a0.size : Int) t233 _ A9.out).mono ?_); rintro e w' ⟨rfl, ⟨nd, rfl⟩⟩; refine ⟨_, rfl, ?_⟩) | ((with_reducible refine gate_callee (f := 14) rfl ?_); refine goesL_ (some 22) rfl rfl Try.func14 (by kernel_rfl) rfl #[.int .i64 a1, .int .i64 3] rfl (by (try simp only [List.map_toArray, List.map_cons, List.map_nil]); first | done | rfl | (simp only [List.length_drop, List.length_take]; rfl)) ?_; (with_reducible refine (railplankeep_Pick.calls a1 3 t234 _ A10.out).mono ?_); rintro e w' ⟨rfl, ⟨nd, rfl⟩⟩; refine ⟨_, rfl, ?_⟩))
            go_ret
            exact ⟨by first | rfl | (simp [errW_none, errW_some] <;> rfl) | (simp [*, errW_none, errW_some] <;> rfl), by repeat (first | (with_reducible first | exact HB.out | apply below_alloc | apply pw_below_drewN | apply below_drew1) | exact HB.out)⟩
          · rw [if_neg c26] at H
            exact absurd H (by simp)
        · rw [if_neg c25] at H
          exact absurd H (by simp)
      · rw [if_neg c24] at H
        have c24b0 : (t234 == 1) = false := beq_eq_false_iff_ne.mpr c24
        have c24b1 : (t234 != 1) = true := bne_iff_ne.mpr c24
        by_cases c27 : 0 ≤ t233
        · rw [if_pos c27] at H
          have c27b0 := eq_true c27
          have c27b1 : decide (0 ≤ t233) = true := decide_eq_true c27
          clear c27
          by_cases c28 : t233 ≤ (a0.size : Int)
          · rw [if_pos c28] at H
            have c28b0 := eq_true c28
            have c28b1 : decide (t233 ≤ (a0.size : Int)) = true := decide_eq_true c28
            clear c28
            obtain ⟨y238, hy238⟩ : ∃ y_ : List Int, y_ = (([(a3) % 256] : List Int)) := ⟨_, rfl⟩
            replace H : (if (a0.extract 0 (t233 : Int).toNat).size + (strOfNums y238).size ≤ 9223372036854775807 then (if (a0.extract 0 (t233 : Int).toNat).size + (strOfNums y238).size + (a0.extract (t233 : Int).toNat a0.size).size ≤ 9223372036854775807 then (some (((a0.extract 0 (t233 : Int).toNat) ++ (strOfNums y238)) ++ (a0.extract (t233 : Int).toNat a0.size))) else (none)) else (none)) = some r := by first | (rw [hy238]; with_reducible exact H) | (have H2_ := (Option.bind_some _ _).symm.trans H; rw [hy238]; with_reducible exact H2_) | (have H2_ := (Option.bind_some _ _).symm.trans H; with_reducible exact H2_) | with_reducible exact H | (rw [hy238]; exact H) | exact H
            have Ny238 := Aside0.mk hy238
            clear hy238
            by_cases c29 : (a0.extract 0 (t233 : Int).toNat).size + (strOfNums y238).size ≤ 9223372036854775807
            · rw [if_pos c29] at H
              have c29b0 := eq_true c29
              have c29b1 : decide ((a0.extract 0 (t233 : Int).toNat).size + (strOfNums y238).size ≤ 9223372036854775807) = true := decide_eq_true c29
              try have c29b2 : (9223372036854775807 < (a0.extract 0 (t233 : Int).toNat).size + (strOfNums y238).size) = False := eq_false (Nat.not_lt.2 c29)
              have c30b0 := eq_true (of_decide_eq_true (by first | (with_reducible assumption) | assumption) : 0 ≤ t233)
              have c31b0 := eq_true (of_decide_eq_true (by first | (with_reducible assumption) | assumption) : t233 ≤ (a0.size : Int))
              by_cases c32 : (a0.extract 0 (t233 : Int).toNat).size + (strOfNums y238).size + (a0.extract (t233 : Int).toNat a0.size).size ≤ 9223372036854775807
              · rw [if_pos c32] at H
                have c32b0 := eq_true c32
                have c32b1 : decide ((a0.extract 0 (t233 : Int).toNat).size + (strOfNums y238).size + (a0.extract (t233 : Int).toNat a0.size).size ≤ 9223372036854775807) = true := decide_eq_true c32
                try have c32b2 : (9223372036854775807 < (a0.extract 0 (t233 : Int).toNat).size + (strOfNums y238).size + (a0.extract (t233 : Int).toNat a0.size).size) = False := eq_false (Nat.not_lt.2 c32)
                obtain rfl := Option.some.inj H
                simp only [Option.some.injEq, Prod.mk.injEq] at H
                obtain ⟨rfl⟩ := H
                go_enter Try.func18, Try.ntmps18
                try go_wp2_with (first | ((with_reducible refine gate_callee (f := 14) rfl ?_); refine goesL_ (some 20) rfl rfl Try.func14 (by kernel_rfl) rfl #[.int .i64 a2, .int .i64 (a0.size : Int)] rfl (by (try simp only [List.map_toArray, List.map_cons, List.map_nil]); first | done | rfl | (simp only [List.length_drop, List.length_take]; rfl)) ?_; (with_reducible refine (railplankeep_Pick.calls a2 (a0.size : Int) t233 _ A9.out).mono ?_); rintro e w' ⟨rfl, ⟨nd, rfl⟩⟩; refine ⟨_, rfl, ?_⟩) | ((with_reducible refine gate_callee (f := 14) rfl ?_); refine goesL_ (some 22) rfl rfl Try.func14 (by kernel_rfl) rfl #[.int .i64 a1, .int .i64 3] rfl (by (try simp only [List.map_toArray, List.map_cons, List.map_nil]); first | done | rfl | (simp only [List.length_drop, List.length_take]; rfl)) ?_; (with_reducible refine (railplankeep_Pick.calls a1 3 t234 _ A10.out).mono ?_); rintro e w' ⟨rfl, ⟨nd, rfl⟩⟩; refine ⟨_, rfl, ?_⟩))
                generalize hq_ : World.drewN w _ = w33
                have n0_ : Aside0 (Below w.heap.size w w33) := ⟨by rw [← hq_]; exact (by repeat (first | (with_reducible first | exact HB.out | apply below_alloc | apply pw_below_drewN | apply below_drew1) | exact HB.out))⟩
                clear HB hq_
                have HB := n0_
                clear n0_
                have n0_ := Aside0.mk (below_drew1 HB.out)
                clear HB
                have HB := n0_
                clear n0_
                refine start_ (n := 13) (S := fun w' => True) (ds := []) #[false, false, false, false, false, false, false, false, false, false, false, false, false] (by kernel_rfl) rfl rfl trivial (fun hHeld => ?_); refine with_tabW railplanlaw41_damaged.tab9 railplanlaw41_damaged.bits9 (fun HT_ HW_ => ?_)
                generalize w33.drew = w34 at HB hHeld ⊢
                refine pure_ (i := 0) (N := some 43) (v := ?_) (a' := ?_) #[true, false, false, false, false, false, false, false, false, false, false, false, false] rfl rfl (any_of HT_.out (by kernel_rfl)) (fun _ _ _ h => h) (Or.inl ⟨by rfl, ?_⟩) ?_ ?_
                rotate_left
                · intro w'
                  go_simp
                  with_reducible rfl
                rotate_left
                · simp only [Act.put, List.setIfInBounds_toArray, List.set_cons_zero, List.set_cons_succ, i64_w, i32_w]
                  rfl
                refine pure_ (i := 1) (N := some 44) (v := ?_) (a' := ?_) #[true, true, false, false, false, false, false, false, false, false, false, false, false] rfl rfl (any_of HT_.out (by kernel_rfl)) (fun _ _ _ h => h) (Or.inl ⟨by rfl, ?_⟩) ?_ ?_
                rotate_left
                · intro w'
                  go_simp
                  with_reducible rfl
                rotate_left
                · simp only [Act.put, List.setIfInBounds_toArray, List.set_cons_zero, List.set_cons_succ, i64_w, i32_w]
                  rfl
                refine pure_ (i := 2) (N := some 45) (v := ?_) (a' := ?_) #[true, true, true, false, false, false, false, false, false, false, false, false, false] rfl rfl (any_of HT_.out (by kernel_rfl)) (fun _ _ _ h => h) (Or.inl ⟨by rfl, ?_⟩) ?_ ?_
                rotate_left
                · intro w'
                  go_simp
                  with_reducible rfl
                rotate_left
                · simp only [Act.put, List.setIfInBounds_toArray, List.set_cons_zero, List.set_cons_succ, i64_w, i32_w]
                  rfl
                refine pure_ (i := 3) (N := some 46) (v := ?_) (a' := ?_) #[true, true, true, true, false, false, false, false, false, false, false, false, false] rfl rfl (any_of HT_.out (by kernel_rfl)) (fun _ _ _ h => h) (Or.inl ⟨by rfl, ?_⟩) ?_ ?_
                rotate_left
                · intro w'
                  go_simp
                  with_reducible rfl
                rotate_left
                · simp only [Act.put, List.setIfInBounds_toArray, List.set_cons_zero, List.set_cons_succ, i64_w, i32_w]
                  rfl
                refine pure_ (i := 4) (N := some 47) (v := ?_) (a' := ?_) #[true, true, true, true, true, false, false, false, false, false, false, false, false] rfl rfl (any_of HT_.out (by kernel_rfl)) (fun _ _ _ h => h) (Or.inl ⟨by rfl, ?_⟩) ?_ ?_
                rotate_left
                · intro w'
                  go_simp
                  with_reducible rfl
                rotate_left
                · simp only [Act.put, List.setIfInBounds_toArray, List.set_cons_zero, List.set_cons_succ, i64_w, i32_w]
                  rfl
                refine pure_ (i := 8) (N := some 51) (v := ?_) (a' := ?_) #[true, true, true, true, true, false, false, false, true, false, false, false, false] rfl rfl (any_of HT_.out (by kernel_rfl)) (fun _ _ _ h => h) (Or.inl ⟨by rfl, ?_⟩) ?_ ?_
                rotate_left
                · intro w'
                  go_simp
                  with_reducible rfl
                rotate_left
                · simp only [Act.put, List.setIfInBounds_toArray, List.set_cons_zero, List.set_cons_succ, i64_w, i32_w]
                  rfl
                refine pure_ (i := 9) (N := some 52) (v := ?_) (a' := ?_) #[true, true, true, true, true, false, false, false, true, true, false, false, false] rfl rfl (any_of HT_.out (by kernel_rfl)) (fun _ _ _ h => h) (Or.inl ⟨by rfl, ?_⟩) ?_ ?_
                rotate_left
                · intro w'
                  go_simp
                  with_reducible rfl
                rotate_left
                · simp only [Act.put, List.setIfInBounds_toArray, List.set_cons_zero, List.set_cons_succ, i64_w, i32_w]
                  rfl
                refine pure_ (i := 10) (N := some 53) (v := ?_) (a' := ?_) #[true, true, true, true, true, false, false, false, true, true, true, false, false] rfl rfl (any_of HT_.out (by kernel_rfl)) (fun _ _ _ h => h) (Or.inl ⟨by rfl, ?_⟩) ?_ ?_
                rotate_left
                · intro w'
                  go_simp
                  with_reducible rfl
                rotate_left
                · simp only [Act.put, List.setIfInBounds_toArray, List.set_cons_zero, List.set_cons_succ, i64_w, i32_w]
                  rfl
                refine one_ (i := 5) (N := some 48) #[true, true, true, true, true, true, false, false, true, true, true, false, false] rfl rfl (one_of HT_.out (by kernel_rfl)) (by decide) (fun K hK => ?_)
                refine Kd.R_lit_step (Kd.int .u8) _ 5 ?hg (N := 48) ?hd (xs := ([(a3) % 256] : List Int)) (inner := [.int .u8 ((a3) % 256)]) (ok := fun _ => True) (okp := fun _ => True) ?hr ?hp (fun _ hk => hk) trivial (Below.refl _ _) (Nat.le_refl _) (by simp) ?_; (case hd => rfl); (case hg => rfl); (case hr => first | (go_simp; done) | (go_simp; rfl)); (case hp => exact (Reps.one (show Kd.M (Kd.int .u8) _ _ _ ((a3) % 256) [.int .u8 ((a3) % 256)] from rfl) (Reps.none _ _)))
                intro v239 w35 ho36 hb hg_ hnew_
                clear hg_ hnew_
                (first | rw [← Ny238.out] at ho36 | (simp only [Int.reduceToNat] at ho36; rw [← Ny238.out] at ho36))
                have n0_ := Aside0.mk (Kd.R_lower ho36 (below_size (by repeat (first | (with_reducible first | exact HB.out | apply below_alloc | apply pw_below_drewN | apply below_drew1) | exact HB.out))))
                have n1_ := Aside0.mk (below_step (by repeat (first | (with_reducible first | exact HB.out | apply below_alloc | apply pw_below_drewN | apply below_drew1) | exact HB.out)) hb)
                clear HB
                have HO240 := n0_
                have HB := n1_
                clear n0_ n1_
                clear hb ho36
                refine hK.out _ _ trivial (fun hHeld => ?_)
                clear hK K
                refine norm_ (a' := ?_) ?_ ?_
                rotate_left
                · show Act.put _ (some 48) _ = _
                  simp only [Act.put, List.setIfInBounds_toArray, List.set_cons_zero, List.set_cons_succ, i64_w, i32_w]
                  rfl
                refine one_ (i := 6) (N := some 49) #[true, true, true, true, true, true, true, false, true, true, true, false, false] rfl rfl (one_of HT_.out (by kernel_rfl)) (by decide) (fun K hK => ?_)
                have hcv37 := own_string (P := Try.prog) Try.underlying58 Try.underlying5 Try.underlying9 (Kd.own_of_R HO240.out)
                refine value_ (w1 := ?_) (v := ?_) (by rfl) rfl ?_ ?_
                rotate_left 2
                · go_simp
                  constructor
                  · rfl
                  · rfl
                clear hcv37
                refine hK.out _ _ trivial (fun hHeld => ?_)
                clear hK K
                refine norm_ (a' := ?_) ?_ ?_
                rotate_left
                · show Act.put _ (some 49) _ = _
                  simp only [Act.put, List.setIfInBounds_toArray, List.set_cons_zero, List.set_cons_succ, i64_w, i32_w]
                  rfl
                refine pure_ (i := 7) (N := some 50) (v := ?_) (a' := ?_) #[true, true, true, true, true, true, true, true, true, true, true, false, false] rfl rfl (any_of HT_.out (by kernel_rfl)) (fun _ _ _ h => h) (Or.inl ⟨by rfl, ?_⟩) ?_ ?_
                rotate_left
                · intro w'
                  go_simp
                  first | with_reducible rfl | (rw [if_neg (by simp only [decide_eq_true_eq, eq_iff_iff, iff_true, iff_false, ByteArray.size_append, ByteArray.size_extract] at *; omega)])
                rotate_left
                · simp only [Act.put, List.setIfInBounds_toArray, List.set_cons_zero, List.set_cons_succ, i64_w, i32_w]
                  rfl
                refine pure_ (i := 11) (N := some 54) (v := ?_) (a' := ?_) #[true, true, true, true, true, true, true, true, true, true, true, true, false] rfl rfl (any_of HT_.out (by kernel_rfl)) (fun _ _ _ h => h) (Or.inl ⟨by rfl, ?_⟩) ?_ ?_
                rotate_left
                · intro w'
                  go_simp
                  first | with_reducible rfl | (rw [if_neg (by simp only [decide_eq_true_eq, eq_iff_iff, iff_true, iff_false, ByteArray.size_append, ByteArray.size_extract] at *; omega)])
                rotate_left
                · simp only [Act.put, List.setIfInBounds_toArray, List.set_cons_zero, List.set_cons_succ, i64_w, i32_w]
                  rfl
                refine pure_ (i := 12) (N := some 8) (v := ?_) (a' := ?_) #[true, true, true, true, true, true, true, true, true, true, true, true, true] rfl rfl (any_of HT_.out (by kernel_rfl)) (fun _ _ _ h => h) (Or.inl ⟨by rfl, ?_⟩) ?_ ?_
                rotate_left
                · intro w'
                  go_simp
                  with_reducible rfl
                rotate_left
                · simp only [Act.put, List.setIfInBounds_toArray, List.set_cons_zero, List.set_cons_succ, i64_w, i32_w]
                  rfl
                refine done_ (done_of HT_.out (by kernel_rfl)) ?_
                try go_wp2
                go_ret
                exact ⟨by first | rfl | (simp [errW_none, errW_some] <;> rfl) | (simp [*, errW_none, errW_some] <;> rfl), by repeat (first | (with_reducible first | exact HB.out | apply below_alloc | apply pw_below_drewN | apply below_drew1) | exact HB.out)⟩
              · rw [if_neg c32] at H
                exact absurd H (by simp)
            · rw [if_neg c29] at H
              exact absurd H (by simp)
          · rw [if_neg c28] at H
            exact absurd H (by simp)
        · rw [if_neg c27] at H
          exact absurd H (by simp)

end Go.Proofs.Ytolckgeffmaakaa.X
