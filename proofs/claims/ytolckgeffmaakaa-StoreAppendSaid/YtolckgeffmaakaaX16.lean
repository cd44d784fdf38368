/- Written by a program of this claim. Proved: each Go function named below, called with any arguments at which its Lean function answers, returns that answer; or, of a law, its given statement. -/
import Derived.Test.YtolckgeffmaakaaX0
import Derived.Test.YtolckgeffmaakaaX3
import Derived.Test.YtolckgeffmaakaaX5
import Derived.Test.YtolckgeffmaakaaX7
import Derived.Test.YtolckgeffmaakaaX9
import Derived.Test.YtolckgeffmaakaaX10
namespace Go.Proofs.Ytolckgeffmaakaa.X
open Go.RowKit Go.Proofs.YtolckgeffmaakaaW Go.Proofs.YtolckgeffmaakaaW.PrintWords Go.Proofs.YtolckgeffmaakaaW.PrintLast Go.Proofs.YtolckgeffmaakaaW.PrintMore
attribute [local go_sem] max2_int min2_int max_two min_two max_three min_three max_four min_four   -- for this text's walks alone
set_option linter.unusedVariables false
set_option linter.unusedSimpArgs false

/-! ### railplanlaw41_StoreAppend: function 5 -/
def railplanlaw41_StoreAppend.f (k : Nat) (l0 : List Int) (a1_0 : Int) (a1_1 : ByteArray) (a2 : Int) (a3 : Int) (a4 : Int) : Option (Bool) := (railplanlaw41_versions.f k l0).bind fun t277 => ((railplanlaw41_file.f k t277).bind fun t280 => ((railplanlaw41_damaged.f t280 a2 a3 a4).bind fun t281 => ((railplankeep_Pick.f a1_0 12).bind fun t282 => ((store_Append.f k t281 a1_0 a1_1).bind fun bt284 => ((railplanref41_Append.f k t281 a1_0 a1_1).bind fun bt286 => ((store_Append.f k t281 t282 a1_1).bind fun bt288 => ((railplanref41_Append.f k t281 t282 a1_1).bind fun bt290 => ((railplanlaw41_awake.f k).bind fun t292 => (if t292 = true then (if bt284.1.toList = bt286.1.toList then (if bt284.2 = bt286.2 then (if bt288.1.toList = bt290.1.toList then (some (bt288.2 == bt290.2)) else (some false)) else (some false)) else (some false)) else (some false))))))))))
theorem railplanlaw41_StoreAppend.mono : ∀ a0 a1 a2 a3 a4 a5 k, LeO (railplanlaw41_StoreAppend.f k a0 a1 a2 a3 a4 a5) (railplanlaw41_StoreAppend.f (k + 1) a0 a1 a2 a3 a4 a5) := by
  intro a0 a1 a2 a3 a4 a5 k
  unfold railplanlaw41_StoreAppend.f
  repeat' first
      | (with_reducible exact railplanlaw41_awake.mono _)
      | (with_reducible exact railplanlaw41_file.mono _ _)
      | (with_reducible exact railplanlaw41_versions.mono _ _)
      | (with_reducible exact railplanref41_Append.mono _ _ _ _)
      | (with_reducible exact store_Append.mono _ _ _ _)
      | (with_reducible exact LeO.refl _)
      | (with_reducible exact LeO.none _)
      | (with_reducible refine LeO.ite ?_ ?_)
      | (with_reducible refine LeO.bind ?_ (fun _ => ?_))
      | exact railplanlaw41_awake.mono _
      | exact railplanlaw41_file.mono _ _
      | exact railplanlaw41_versions.mono _ _
      | exact railplanref41_Append.mono _ _ _ _
      | exact store_Append.mono _ _ _ _
      | exact LeO.none _
      | refine LeO.ite ?_ ?_
      | refine LeO.bind ?_ (fun _ => ?_)
def railplanlaw41_StoreAppend.T2 : Bool × List (List Nat × List Nat) := (true, [([], []), ([0], [0]), ([1], [1]), ([], []), ([3], [3]), ([2, 4], [2, 4]), ([], []), ([6, 5, 2, 0, 1, 2, 3, 4, 5, 6], [5, 6])])
def railplanlaw41_StoreAppend.B2 : List Nat := [0, 1, 3, 0, 8, 31, 0, 127]
theorem railplanlaw41_StoreAppend.tab2 : rtab .any (opsOf Try.f5 2) = railplanlaw41_StoreAppend.T2 := by kernel_rfl
theorem railplanlaw41_StoreAppend.bits2 : waitsOk railplanlaw41_StoreAppend.T2.2 railplanlaw41_StoreAppend.B2 = true := by kernel_rfl
set_option maxHeartbeats 8000000 in
set_option maxRecDepth 100000 in
theorem railplanlaw41_StoreAppend.calls (k : Nat) (A0 : Option Addr) (c0 : Nat) (l0 : List Int) (a1_0 : Int) (a1_1 : ByteArray) (a2 : Int) (a3 : Int) (a4 : Int) (r : Bool) (w : World) (hr0 : Kd.C (Kd.int .i64) w A0 l0.length l0) (hc0 : l0.length ≤ c0) (hr_ : Aside0 (r = true)) (h : railplanlaw41_StoreAppend.f k l0 a1_0 a1_1 a2 a3 a4 = some r) :
    Calls Try.prog 5 #[.slice A0 l0.length c0, .agg #[.int .i64 a1_0, .string a1_1], .int .i64 a2, .int .i64 a3, .int .i64 a4] w fun e w' => e = .returned (.bool r) ∧ Below w.heap.size w w' := by
  have hu23 := Try.underlying23
  have HR0 := Aside0.mk hr0
  have HC0 := Aside0.mk hc0
  clear hr0 hc0
  have HB := Aside0.mk (Below.refl w.heap.size w)
  have H : ((railplanlaw41_versions.f k l0).bind fun t277 => ((railplanlaw41_file.f k t277).bind fun t280 => ((railplanlaw41_damaged.f t280 a2 a3 a4).bind fun t281 => ((railplankeep_Pick.f a1_0 12).bind fun t282 => ((store_Append.f k t281 a1_0 a1_1).bind fun bt284 => ((railplanref41_Append.f k t281 a1_0 a1_1).bind fun bt286 => ((store_Append.f k t281 t282 a1_1).bind fun bt288 => ((railplanref41_Append.f k t281 t282 a1_1).bind fun bt290 => ((railplanlaw41_awake.f k).bind fun t292 => (if t292 = true then (if bt284.1.toList = bt286.1.toList then (if bt284.2 = bt286.2 then (if bt288.1.toList = bt290.1.toList then (some (bt288.2 == bt290.2)) else (some false)) else (some false)) else (some false)) else (some false))))))))))) = some r := h
  clear h
  replace H := Option.bind_eq_some_iff.mp H
  obtain ⟨t277, A60, H⟩ := H
  replace H : ((railplanlaw41_file.f k t277).bind fun t280 => ((railplanlaw41_damaged.f t280 a2 a3 a4).bind fun t281 => ((railplankeep_Pick.f a1_0 12).bind fun t282 => ((store_Append.f k t281 a1_0 a1_1).bind fun bt284 => ((railplanref41_Append.f k t281 a1_0 a1_1).bind fun bt286 => ((store_Append.f k t281 t282 a1_1).bind fun bt288 => ((railplanref41_Append.f k t281 t282 a1_1).bind fun bt290 => ((railplanlaw41_awake.f k).bind fun t292 => (if t292 = true then (if bt284.1.toList = bt286.1.toList then (if bt284.2 = bt286.2 then (if bt288.1.toList = bt290.1.toList then (some (bt288.2 == bt290.2)) else (some false)) else (some false)) else (some false)) else (some false)))))))))) = some r := H
  have A6 := Aside0.mk A60
  clear A60
  replace H := Option.bind_eq_some_iff.mp H
  obtain ⟨t280, A70, H⟩ := H
  replace H : ((railplanlaw41_damaged.f t280 a2 a3 a4).bind fun t281 => ((railplankeep_Pick.f a1_0 12).bind fun t282 => ((store_Append.f k t281 a1_0 a1_1).bind fun bt284 => ((railplanref41_Append.f k t281 a1_0 a1_1).bind fun bt286 => ((store_Append.f k t281 t282 a1_1).bind fun bt288 => ((railplanref41_Append.f k t281 t282 a1_1).bind fun bt290 => ((railplanlaw41_awake.f k).bind fun t292 => (if t292 = true then (if bt284.1.toList = bt286.1.toList then (if bt284.2 = bt286.2 then (if bt288.1.toList = bt290.1.toList then (some (bt288.2 == bt290.2)) else (some false)) else (some false)) else (some false)) else (some false))))))))) = some r := H
  have A7 := Aside0.mk A70
  clear A70
  replace H := Option.bind_eq_some_iff.mp H
  obtain ⟨t281, A80, H⟩ := H
  replace H : ((railplankeep_Pick.f a1_0 12).bind fun t282 => ((store_Append.f k t281 a1_0 a1_1).bind fun bt284 => ((railplanref41_Append.f k t281 a1_0 a1_1).bind fun bt286 => ((store_Append.f k t281 t282 a1_1).bind fun bt288 => ((railplanref41_Append.f k t281 t282 a1_1).bind fun bt290 => ((railplanlaw41_awake.f k).bind fun t292 => (if t292 = true then (if bt284.1.toList = bt286.1.toList then (if bt284.2 = bt286.2 then (if bt288.1.toList = bt290.1.toList then (some (bt288.2 == bt290.2)) else (some false)) else (some false)) else (some false)) else (some false)))))))) = some r := H
  have A8 := Aside0.mk A80
  clear A80
  replace H := Option.bind_eq_some_iff.mp H
  obtain ⟨t282, A90, H⟩ := H
  replace H : ((store_Append.f k t281 a1_0 a1_1).bind fun bt284 => ((railplanref41_Append.f k t281 a1_0 a1_1).bind fun bt286 => ((store_Append.f k t281 t282 a1_1).bind fun bt288 => ((railplanref41_Append.f k t281 t282 a1_1).bind fun bt290 => ((railplanlaw41_awake.f k).bind fun t292 => (if t292 = true then (if bt284.1.toList = bt286.1.toList then (if bt284.2 = bt286.2 then (if bt288.1.toList = bt290.1.toList then (some (bt288.2 == bt290.2)) else (some false)) else (some false)) else (some false)) else (some false))))))) = some r := H
  have A9 := Aside0.mk A90
  clear A90
  replace H := Option.bind_eq_some_iff.mp H
  obtain ⟨⟨t284, t285⟩, A100, H⟩ := H
  replace H : ((railplanref41_Append.f k t281 a1_0 a1_1).bind fun bt286 => ((store_Append.f k t281 t282 a1_1).bind fun bt288 => ((railplanref41_Append.f k t281 t282 a1_1).bind fun bt290 => ((railplanlaw41_awake.f k).bind fun t292 => (if t292 = true then (if t284.toList = bt286.1.toList then (if t285 = bt286.2 then (if bt288.1.toList = bt290.1.toList then (some (bt288.2 == bt290.2)) else (some false)) else (some false)) else (some false)) else (some false)))))) = some r := H
  have A10 := Aside0.mk A100
  clear A100
  replace H := Option.bind_eq_some_iff.mp H
  obtain ⟨⟨t286, t287⟩, A110, H⟩ := H
  replace H : ((store_Append.f k t281 t282 a1_1).bind fun bt288 => ((railplanref41_Append.f k t281 t282 a1_1).bind fun bt290 => ((railplanlaw41_awake.f k).bind fun t292 => (if t292 = true then (if t284.toList = t286.toList then (if t285 = t287 then (if bt288.1.toList = bt290.1.toList then (some (bt288.2 == bt290.2)) else (some false)) else (some false)) else (some false)) else (some false))))) = some r := H
  have A11 := Aside0.mk A110
  clear A110
  replace H := Option.bind_eq_some_iff.mp H
  obtain ⟨⟨t288, t289⟩, A120, H⟩ := H
  replace H : ((railplanref41_Append.f k t281 t282 a1_1).bind fun bt290 => ((railplanlaw41_awake.f k).bind fun t292 => (if t292 = true then (if t284.toList = t286.toList then (if t285 = t287 then (if t288.toList = bt290.1.toList then (some (t289 == bt290.2)) else (some false)) else (some false)) else (some false)) else (some false)))) = some r := H
  have A12 := Aside0.mk A120
  clear A120
  replace H := Option.bind_eq_some_iff.mp H
  obtain ⟨⟨t290, t291⟩, A130, H⟩ := H
  replace H : ((railplanlaw41_awake.f k).bind fun t292 => (if t292 = true then (if t284.toList = t286.toList then (if t285 = t287 then (if t288.toList = t290.toList then (some (t289 == t291)) else (some false)) else (some false)) else (some false)) else (some false))) = some r := H
  have A13 := Aside0.mk A130
  clear A130
  replace H := Option.bind_eq_some_iff.mp H
  obtain ⟨t292, A140, H⟩ := H
  replace H : (if t292 = true then (if t284.toList = t286.toList then (if t285 = t287 then (if t288.toList = t290.toList then (some (t289 == t291)) else (some false)) else (some false)) else (some false)) else (some false)) = some r := H
  have A14 := Aside0.mk A140
  clear A140
  by_cases c15 : t292 = true
  · subst c15
    have H1 : (if t284.toList = t286.toList then (if t285 = t287 then (if t288.toList = t290.toList then (some (t289 == t291)) else (some false)) else (some false)) else (some false)) = some r := by rw [if_pos rfl] at H; exact H
    clear H
    have H := H1
    clear H1
    by_cases c16 : t284.toList = t286.toList
    · rw [if_pos c16] at H
      have c16b0 : (t284.toList == t286.toList) = true := beq_iff_eq.mpr c16
      have c16b1 : (t284.toList != t286.toList) = false := bne_eq_false_iff_eq.mpr c16
      clear c16
      by_cases c17 : t285 = t287
      · rw [if_pos c17] at H
        have c17b0 : (t285 == t287) = true := beq_iff_eq.mpr c17
        have c17b1 : (t285 != t287) = false := bne_eq_false_iff_eq.mpr c17
        clear c17
        by_cases c18 : t288.toList = t290.toList
        · rw [if_pos c18] at H
          have c18b0 : (t288.toList == t290.toList) = true := beq_iff_eq.mpr c18
          have c18b1 : (t288.toList != t290.toList) = false := bne_eq_false_iff_eq.mpr c18
          clear c18
          obtain rfl := Option.some.inj H
          simp only [Option.some.injEq, Prod.mk.injEq] at H
          obtain ⟨rfl⟩ := H
          go_enter Try.func5, Try.ntmps5
          try go_wp2_with (first | ((with_reducible refine gate_dst (N := 6) rfl ?_); refine box_event ?hg (N := 6) ?hd (cs := #[.int .i64 a1_0, .string a1_1]) (t := 23) ?hr ?_; (case hd => rfl); (case hg => rfl); (case hr => first | (go_simp; done) | (go_simp; rfl)); intro gb276 hg w19 hbox hb; have n0_ := Aside0.mk (below_step (by repeat (first | (with_reducible first | exact HB.out | apply below_alloc | apply pw_below_drewN | apply below_drew1) | exact HB.out)) hb); have n1_ := Aside0.mk (hbox); have n2_ := Aside0.mk ((by rw [hg]; exact (below_size (by repeat (first | (with_reducible first | exact HB.out | apply below_alloc | apply pw_below_drewN | apply below_drew1) | exact HB.out))) : w.heap.size ≤ gb276)); have n3_ := Aside0.mk ((by rw [hg]; exact (below_size (by repeat (first | (with_reducible first | exact HB.out | apply below_alloc | apply pw_below_drewN | apply below_drew1) | exact HB.out))) : w.heap.size ≤ gb276)); clear HB; have HB := n0_; have BK276 := n1_; have GW276 := n2_; have GE276 := n3_; clear n0_ n1_ n2_ n3_; clear hb hbox hg) | ((with_reducible refine gate_callee (f := 17) rfl ?_); refine goesL_ (some 22) rfl rfl Try.func17 (by kernel_rfl) rfl #[.slice A0 l0.length c0] rfl (by (try simp only [List.map_toArray, List.map_cons, List.map_nil]); first | done | rfl | (simp only [List.length_drop, List.length_take]; rfl)) ?_; (with_reducible refine (railplanlaw41_versions.calls k _ _ l0 t277 _ ?side1 ?side2 A6.out).mono ?_); (case side1 => repeat (first | exact (Kd.C_below HR0.out HB.out) | (with_reducible refine Kd.C_alloc ?_ _) | (with_reducible refine Kd.C_drewN ?_ _) | (with_reducible refine Kd.C_drew ?_))); (case side2 => exact HC0.out); rintro e w20 ⟨v278, rfl, ho0, hb⟩; refine ⟨_, rfl, ?_⟩; have n0_ := Aside0.mk (Kd.R_lower (Kd.R_newB ho0 (g := gb276) (o := .cells #[.int .i64 a1_0, .string a1_1] 23 (0, 0)) (by (with_reducible repeat (first | refine blk_drewN ?_ _ | refine blk_drew ?_ | refine blk_alloc ?_ _)); exact BK276.out)) (below_size (by repeat (first | (with_reducible first | exact HB.out | apply below_alloc | apply pw_below_drewN | apply below_drew1 | refine below_set ?_ GE276.out) | exact HB.out)))); have n1_ := Aside0.mk (blk_below (g := gb276) (o := .cells #[.int .i64 a1_0, .string a1_1] 23 (0, 0)) (by (with_reducible repeat (first | refine blk_drewN ?_ _ | refine blk_drew ?_ | refine blk_alloc ?_ _)); exact BK276.out) hb); have n2_ := Aside0.mk (below_step (by repeat (first | (with_reducible first | exact HB.out | apply below_alloc | apply pw_below_drewN | apply below_drew1 | refine below_set ?_ GE276.out) | exact HB.out)) hb); clear BK276; clear HB; have HO279 := n0_; have BK276 := n1_; have HB := n2_; clear n0_ n1_ n2_; (try clear hb); (try clear hb2); (try clear hk); (try clear hi); (try clear ho0); obtain ⟨Ao21, co21, eo21⟩ := Kd.R_slice HO279.out; subst eo21) | ((with_reducible refine gate_callee (f := 16) rfl ?_); refine goesL_ (some 23) rfl rfl Try.func16 (by kernel_rfl) rfl #[.slice Ao21 t277.length co21] rfl (by (try simp only [List.map_toArray, List.map_cons, List.map_nil]); first | done | rfl | (simp only [List.length_drop, List.length_take]; rfl)) ?_; (with_reducible refine (railplanlaw41_file.calls k _ _ t277 t280 _ ?side1 ?side2 A7.out).mono ?_); (case side1 => repeat (first | exact (Kd.R_reads' HO279.out).2.2 | (with_reducible refine Kd.C_alloc ?_ _) | (with_reducible refine Kd.C_drewN ?_ _) | (with_reducible refine Kd.C_drew ?_))); (case side2 => exact (Kd.R_reads' HO279.out).2.1); rintro e w22 ⟨rfl, hb⟩; refine ⟨_, rfl, ?_⟩; have n0_ := Aside0.mk (Kd.R_below (by (with_reducible repeat (first | apply Kd.R_alloc | apply Kd.R_drewN | apply Kd.R_drew)); exact HO279.out) hb); have n1_ := Aside0.mk (blk_below (g := gb276) (o := .cells #[.int .i64 a1_0, .string a1_1] 23 (0, 0)) (by (with_reducible repeat (first | refine blk_drewN ?_ _ | refine blk_drew ?_ | refine blk_alloc ?_ _)); exact BK276.out) hb); have n2_ := Aside0.mk (below_step (by repeat (first | (with_reducible first | exact HB.out | apply below_alloc | apply pw_below_drewN | apply below_drew1 | refine below_set ?_ GE276.out) | exact HB.out)) hb); clear HO279; clear BK276; clear HB; have HO279 := n0_; have BK276 := n1_; have HB := n2_; clear n0_ n1_ n2_; (try clear hb); (try clear hb2); (try clear hk); (try clear hi)) | ((with_reducible refine gate_callee (f := 18) rfl ?_); refine goesL_ (some 27) rfl rfl Try.func18 (by kernel_rfl) rfl #[.string t280, .int .i64 a2, .int .i64 a3, .int .i64 a4] rfl (by (try simp only [List.map_toArray, List.map_cons, List.map_nil]); first | done | rfl | (simp only [List.length_drop, List.length_take]; rfl)) ?_; (with_reducible refine (railplanlaw41_damaged.calls t280 a2 a3 a4 t281 _ A8.out).mono ?_); rintro e w23 ⟨rfl, hb⟩; refine ⟨_, rfl, ?_⟩; have n0_ := Aside0.mk (Kd.R_below (by (with_reducible repeat (first | apply Kd.R_alloc | apply Kd.R_drewN | apply Kd.R_drew)); exact HO279.out) hb); have n1_ := Aside0.mk (blk_below (g := gb276) (o := .cells #[.int .i64 a1_0, .string a1_1] 23 (0, 0)) (by (with_reducible repeat (first | refine blk_drewN ?_ _ | refine blk_drew ?_ | refine blk_alloc ?_ _)); exact BK276.out) hb); have n2_ := Aside0.mk (below_step (by repeat (first | (with_reducible first | exact HB.out | apply below_alloc | apply pw_below_drewN | apply below_drew1 | refine below_set ?_ GE276.out) | exact HB.out)) hb); clear HO279; clear BK276; clear HB; have HO279 := n0_; have BK276 := n1_; have HB := n2_; clear n0_ n1_ n2_; (try clear hb); (try clear hb2); (try clear hk); (try clear hi)))
          have n0_ := Aside0.mk (Kd.R_drew HO279.out)
          have n1_ := Aside0.mk (blk_drew BK276.out)
          have n2_ := Aside0.mk (below_drew1 HB.out)
          clear HO279
          clear BK276
          clear HB
          have HO279 := n0_
          have BK276 := n1_
          have HB := n2_
          clear n0_ n1_ n2_
          refine start_ (n := 8) (S := fun w' => w'.cell? ⟨gb276, 0, none⟩ = some (.int .i64 a1_0) ∧ w'.cell? ⟨gb276, 1, none⟩ = some (.string a1_1)) (ds := []) #[false, false, false, false, false, false, false, false] (by kernel_rfl) rfl rfl ⟨(blk_cell BK276.out 0).trans rfl, (blk_cell BK276.out 1).trans rfl⟩ (fun hHeld => ?_); refine with_tabW railplanlaw41_StoreAppend.tab2 railplanlaw41_StoreAppend.bits2 (fun HT_ HW_ => ?_)
          generalize w23.drew = w24 at HO279 BK276 HB hHeld ⊢
          refine pure_ (i := 0) (N := some 28) (v := ?_) (a' := ?_) #[true, false, false, false, false, false, false, false] rfl rfl (any_of HT_.out (by kernel_rfl)) (fun _ _ _ h => h) (Or.inl ⟨by rfl, ?_⟩) ?_ ?_
          rotate_left
          · intro w'
            go_simp
            with_reducible rfl
          rotate_left
          · simp only [Act.put, List.setIfInBounds_toArray, List.set_cons_zero, List.set_cons_succ, i64_w, i32_w]
            rfl
          refine pure_ (i := 3) (N := some 31) (v := ?_) (a' := ?_) #[true, false, false, true, false, false, false, false] rfl rfl (any_of HT_.out (by kernel_rfl)) (fun _ _ _ h => h) (Or.inl ⟨by rfl, ?_⟩) ?_ ?_
          rotate_left
          · intro w'
            go_simp
            with_reducible rfl
          rotate_left
          · simp only [Act.put, List.setIfInBounds_toArray, List.set_cons_zero, List.set_cons_succ, i64_w, i32_w]
            rfl
          refine take_ (i := 1) (N := some 29) (v := ?_) (a' := ?_) #[true, true, false, true, false, false, false, false] rfl rfl (take_ofW HT_.out HW_.out (by kernel_rfl)) (fun _ _ _ h => h) (Or.inl ⟨by rfl, ?_⟩) hHeld ?_ ?_
          rotate_left
          · rintro w' ⟨s0, s1⟩
            go_simp
            with_reducible rfl
          rotate_left
          · simp only [Act.put, List.setIfInBounds_toArray, List.set_cons_zero, List.set_cons_succ, i64_w, i32_w]
            rfl
          refine take_ (i := 4) (N := some 32) (v := ?_) (a' := ?_) #[true, true, false, true, true, false, false, false] rfl rfl (take_ofW HT_.out HW_.out (by kernel_rfl)) (fun _ _ _ h => h) (Or.inl ⟨by rfl, ?_⟩) hHeld ?_ ?_
          rotate_left
          · rintro w' ⟨s0, s1⟩
            go_simp
            with_reducible rfl
          rotate_left
          · simp only [Act.put, List.setIfInBounds_toArray, List.set_cons_zero, List.set_cons_succ, i64_w, i32_w]
            rfl
          refine join_ (σ := Nat) 1 #[true, true, true, true, true, true, true, false] (fun s_ => [(30, .int .i64 t282), (12, .pointer (some ⟨s_, 0, none⟩)), (33, .agg #[.int .i64 t282, .string a1_1])]) (fun s_ w' => (w'.cell? ⟨gb276, 0, none⟩ = some (.int .i64 a1_0) ∧ w'.cell? ⟨gb276, 1, none⟩ = some (.string a1_1)) ∧ (Kd.R k23 23 w' w.heap.size (fun k_ => k_ ≠ gb276 ∧ k_ ≠ s_) (.slice Ao21 t277.length co21) t277) ∧ (w'.heap[gb276]? = some (.cells #[.int .i64 a1_0, .string a1_1] 23 (0, 0))) ∧ (w'.heap[s_]? = some (.cells #[.int .i64 0, .string (⟨#[]⟩ : ByteArray)] 23 (0, 0))) ∧ (w.heap.size ≤ s_) ∧ (w.heap.size ≤ s_) ∧ (gb276 ≠ s_) ∧ (s_ ≠ gb276) ∧ (Below w.heap.size w w')) ?_ ?_
          rotate_left
          · intro hCont
            refine two_ (i := 2) (j := 6) (Ni := some 30) (Nj := some 12) #[true, true, true, true, true, false, false, false] #[true, true, false, true, true, false, true, false] rfl rfl rfl rfl (two_of HT_.out (by kernel_rfl)) (by decide) (by decide) (fun K hK => ?_) (fun K hK => ?_)
            · skip
              refine goes_ Try.func14 (by kernel_rfl) rfl #[.int .i64 a1_0, .int .i64 12] (by rfl) rfl rfl (by (try simp only [List.map_toArray, List.map_cons, List.map_nil]); first | done | rfl | (simp only [List.length_drop, List.length_take]; rfl)) ?_
              with_reducible refine (railplankeep_Pick.calls a1_0 12 t282 _ A9.out).mono ?_
              rintro e w' ⟨rfl, ⟨nd, rfl⟩⟩
              refine ⟨_, rfl, ?_⟩
              refine hK.out _ _ ⟨(blk_cell BK276.out 0).trans rfl, (blk_cell BK276.out 1).trans rfl⟩ (fun hHeld => ?_)
              clear hK K
              refine norm_ (a' := ?_) ?_ ?_
              rotate_left
              · show Act.put _ (some 30) _ = _
                simp only [Act.put, List.setIfInBounds_toArray, List.set_cons_zero, List.set_cons_succ, i64_w, i32_w]
                rfl
              refine pure_ (i := 5) (N := some 33) (v := ?_) (a' := ?_) #[true, true, true, true, true, true, false, false] rfl rfl (any_of HT_.out (by kernel_rfl)) (fun _ _ _ h => h) (Or.inl ⟨by rfl, ?_⟩) ?_ ?_
              rotate_left
              · intro w'
                go_simp
                with_reducible rfl
              rotate_left
              · simp only [Act.put, List.setIfInBounds_toArray, List.set_cons_zero, List.set_cons_succ, i64_w, i32_w]
                rfl
              refine one_ (i := 6) (N := some 12) #[true, true, true, true, true, true, true, false] rfl rfl (one_of HT_.out (by kernel_rfl)) (by decide) (fun K hK => ?_)
              refine box_step ?hg (N := 12) ?hd (cs := #[.int .i64 0, .string (⟨#[]⟩ : ByteArray)]) (t := 23) ?hr ?_; (case hd => rfl); (case hg => rfl); (case hr => first | (go_simp; done) | (go_simp; rfl))
              intro gb283 hg w25 hbox hb
              have n0_ := Aside0.mk (Kd.R_below (Kd.R_elderB (by (with_reducible repeat (first | apply Kd.R_alloc | apply Kd.R_drewN | apply Kd.R_drew)); exact HO279.out) gb283 (Nat.le_of_eq hg.symm)) hb)
              have n1_ := Aside0.mk (blk_below (g := gb276) (o := .cells #[.int .i64 a1_0, .string a1_1] 23 (0, 0)) (by (with_reducible repeat (first | refine blk_drewN ?_ _ | refine blk_drew ?_ | refine blk_alloc ?_ _)); exact BK276.out) hb)
              have n2_ := Aside0.mk (below_step (by repeat (first | (with_reducible first | exact HB.out | apply below_alloc | apply pw_below_drewN | apply below_drew1 | refine below_set ?_ GE276.out) | exact HB.out)) hb)
              have n3_ := Aside0.mk (hbox)
              have n4_ := Aside0.mk ((by rw [hg]; exact (below_size (by repeat (first | (with_reducible first | exact HB.out | apply below_alloc | apply pw_below_drewN | apply below_drew1 | refine below_set ?_ GE276.out) | exact HB.out))) : w.heap.size ≤ gb283))
              have n5_ := Aside0.mk ((by rw [hg]; exact (below_size (by repeat (first | (with_reducible first | exact HB.out | apply below_alloc | apply pw_below_drewN | apply below_drew1 | refine below_set ?_ GE276.out) | exact HB.out))) : w.heap.size ≤ gb283))
              have n6_ := Aside0.mk ((by rw [hg]; exact Nat.ne_of_lt (blk_lt (g := gb276) (o := .cells #[.int .i64 a1_0, .string a1_1] 23 (0, 0)) (by (with_reducible repeat (first | refine blk_drewN ?_ _ | refine blk_drew ?_ | refine blk_alloc ?_ _)); exact BK276.out)) : gb276 ≠ gb283))
              have n7_ := Aside0.mk ((by rw [hg]; exact Nat.ne_of_gt (blk_lt (g := gb276) (o := .cells #[.int .i64 a1_0, .string a1_1] 23 (0, 0)) (by (with_reducible repeat (first | refine blk_drewN ?_ _ | refine blk_drew ?_ | refine blk_alloc ?_ _)); exact BK276.out)) : gb283 ≠ gb276))
              clear HO279
              clear BK276
              clear HB
              have HO279 := n0_
              have BK276 := n1_
              have HB := n2_
              have BK283 := n3_
              have GW283 := n4_
              have GE283 := n5_
              have NB276_283 := n6_
              have NB283_276 := n7_
              clear n0_ n1_ n2_ n3_ n4_ n5_ n6_ n7_
              clear hb hbox hg
              refine hK.out _ _ ⟨(blk_cell BK276.out 0).trans rfl, (blk_cell BK276.out 1).trans rfl⟩ (fun hHeld => ?_)
              clear hK K
              refine norm_ (a' := ?_) ?_ ?_
              rotate_left
              · show Act.put _ (some 12) _ = _
                simp only [Act.put, List.setIfInBounds_toArray, List.set_cons_zero, List.set_cons_succ, i64_w, i32_w]
                rfl
              exact norm_ (by simp only [putAll, Act.put, List.setIfInBounds_toArray, List.set_cons_zero, List.set_cons_succ]) (hCont (gb283) _ ⟨hHeld, (by (with_reducible repeat (first | apply Kd.R_alloc | apply Kd.R_drewN | apply Kd.R_drew)); exact Kd.R_mono HO279.out (fun _ hk => ⟨hk.1.2, hk.2⟩)), (by (with_reducible repeat (first | refine blk_drewN ?_ _ | refine blk_drew ?_ | refine blk_alloc ?_ _)); exact BK276.out), (by (with_reducible repeat (first | refine blk_drewN ?_ _ | refine blk_drew ?_ | refine blk_alloc ?_ _)); exact BK283.out), GW283.out, GE283.out, NB276_283.out, NB283_276.out, (by repeat (first | (with_reducible first | exact HB.out | apply below_alloc | apply pw_below_drewN | apply below_drew1 | refine below_set ?_ GE276.out | refine below_set ?_ GE283.out) | exact HB.out))⟩)
            · skip
              refine box_step ?hg (N := 12) ?hd (cs := #[.int .i64 0, .string (⟨#[]⟩ : ByteArray)]) (t := 23) ?hr ?_; (case hd => rfl); (case hg => rfl); (case hr => first | (go_simp; done) | (go_simp; rfl))
              intro gb283 hg w25 hbox hb
              have n0_ := Aside0.mk (Kd.R_below (Kd.R_elderB (by (with_reducible repeat (first | apply Kd.R_alloc | apply Kd.R_drewN | apply Kd.R_drew)); exact HO279.out) gb283 (Nat.le_of_eq hg.symm)) hb)
              have n1_ := Aside0.mk (blk_below (g := gb276) (o := .cells #[.int .i64 a1_0, .string a1_1] 23 (0, 0)) (by (with_reducible repeat (first | refine blk_drewN ?_ _ | refine blk_drew ?_ | refine blk_alloc ?_ _)); exact BK276.out) hb)
              have n2_ := Aside0.mk (below_step (by repeat (first | (with_reducible first | exact HB.out | apply below_alloc | apply pw_below_drewN | apply below_drew1 | refine below_set ?_ GE276.out) | exact HB.out)) hb)
              have n3_ := Aside0.mk (hbox)
              have n4_ := Aside0.mk ((by rw [hg]; exact (below_size (by repeat (first | (with_reducible first | exact HB.out | apply below_alloc | apply pw_below_drewN | apply below_drew1 | refine below_set ?_ GE276.out) | exact HB.out))) : w.heap.size ≤ gb283))
              have n5_ := Aside0.mk ((by rw [hg]; exact (below_size (by repeat (first | (with_reducible first | exact HB.out | apply below_alloc | apply pw_below_drewN | apply below_drew1 | refine below_set ?_ GE276.out) | exact HB.out))) : w.heap.size ≤ gb283))
              have n6_ := Aside0.mk ((by rw [hg]; exact Nat.ne_of_lt (blk_lt (g := gb276) (o := .cells #[.int .i64 a1_0, .string a1_1] 23 (0, 0)) (by (with_reducible repeat (first | refine blk_drewN ?_ _ | refine blk_drew ?_ | refine blk_alloc ?_ _)); exact BK276.out)) : gb276 ≠ gb283))
              have n7_ := Aside0.mk ((by rw [hg]; exact Nat.ne_of_gt (blk_lt (g := gb276) (o := .cells #[.int .i64 a1_0, .string a1_1] 23 (0, 0)) (by (with_reducible repeat (first | refine blk_drewN ?_ _ | refine blk_drew ?_ | refine blk_alloc ?_ _)); exact BK276.out)) : gb283 ≠ gb276))
              clear HO279
              clear BK276
              clear HB
              have HO279 := n0_
              have BK276 := n1_
              have HB := n2_
              have BK283 := n3_
              have GW283 := n4_
              have GE283 := n5_
              have NB276_283 := n6_
              have NB283_276 := n7_
              clear n0_ n1_ n2_ n3_ n4_ n5_ n6_ n7_
              clear hb hbox hg
              refine hK.out _ _ ⟨(blk_cell BK276.out 0).trans rfl, (blk_cell BK276.out 1).trans rfl⟩ (fun hHeld => ?_)
              clear hK K
              refine norm_ (a' := ?_) ?_ ?_
              rotate_left
              · show Act.put _ (some 12) _ = _
                simp only [Act.put, List.setIfInBounds_toArray, List.set_cons_zero, List.set_cons_succ, i64_w, i32_w]
                rfl
              refine one_ (i := 2) (N := some 30) #[true, true, true, true, true, false, true, false] rfl rfl (one_of HT_.out (by kernel_rfl)) (by decide) (fun K hK => ?_)
              refine goes_ Try.func14 (by kernel_rfl) rfl #[.int .i64 a1_0, .int .i64 12] (by rfl) rfl rfl (by (try simp only [List.map_toArray, List.map_cons, List.map_nil]); first | done | rfl | (simp only [List.length_drop, List.length_take]; rfl)) ?_
              with_reducible refine (railplankeep_Pick.calls a1_0 12 t282 _ A9.out).mono ?_
              rintro e w' ⟨rfl, ⟨nd, rfl⟩⟩
              refine ⟨_, rfl, ?_⟩
              refine hK.out _ _ ⟨(blk_cell BK276.out 0).trans rfl, (blk_cell BK276.out 1).trans rfl⟩ (fun hHeld => ?_)
              clear hK K
              refine norm_ (a' := ?_) ?_ ?_
              rotate_left
              · show Act.put _ (some 30) _ = _
                simp only [Act.put, List.setIfInBounds_toArray, List.set_cons_zero, List.set_cons_succ, i64_w, i32_w]
                rfl
              refine pure_ (i := 5) (N := some 33) (v := ?_) (a' := ?_) #[true, true, true, true, true, true, true, false] rfl rfl (any_of HT_.out (by kernel_rfl)) (fun _ _ _ h => h) (Or.inl ⟨by rfl, ?_⟩) ?_ ?_
              rotate_left
              · intro w'
                go_simp
                with_reducible rfl
              rotate_left
              · simp only [Act.put, List.setIfInBounds_toArray, List.set_cons_zero, List.set_cons_succ, i64_w, i32_w]
                rfl
              exact norm_ (by simp only [putAll, Act.put, List.setIfInBounds_toArray, List.set_cons_zero, List.set_cons_succ]) (hCont (gb283) _ ⟨hHeld, (by (with_reducible repeat (first | apply Kd.R_alloc | apply Kd.R_drewN | apply Kd.R_drew)); exact Kd.R_mono HO279.out (fun _ hk => ⟨hk.1.2, hk.2⟩)), (by (with_reducible repeat (first | refine blk_drewN ?_ _ | refine blk_drew ?_ | refine blk_alloc ?_ _)); exact BK276.out), (by (with_reducible repeat (first | refine blk_drewN ?_ _ | refine blk_drew ?_ | refine blk_alloc ?_ _)); exact BK283.out), GW283.out, GE283.out, NB276_283.out, NB283_276.out, (by repeat (first | (with_reducible first | exact HB.out | apply below_alloc | apply pw_below_drewN | apply below_drew1 | refine below_set ?_ GE276.out | refine below_set ?_ GE283.out) | exact HB.out))⟩)
          rintro gb283 w26 ⟨hS_, h0_, h1_, h2_, h3_, h4_, h5_, h6_, h7_⟩
          have n0_ : Aside0 (Kd.R k23 23 w26 w.heap.size (fun k_ => k_ ≠ gb276 ∧ k_ ≠ gb283) (.slice Ao21 t277.length co21) t277) := ⟨h0_⟩
          have n1_ : Aside0 (w26.heap[gb276]? = some (.cells #[.int .i64 a1_0, .string a1_1] 23 (0, 0))) := ⟨h1_⟩
          have n2_ : Aside0 (w26.heap[gb283]? = some (.cells #[.int .i64 0, .string (⟨#[]⟩ : ByteArray)] 23 (0, 0))) := ⟨h2_⟩
          have n3_ : Aside0 (w.heap.size ≤ gb283) := ⟨h3_⟩
          have n4_ : Aside0 (w.heap.size ≤ gb283) := ⟨h4_⟩
          have n5_ : Aside0 (gb276 ≠ gb283) := ⟨h5_⟩
          have n6_ : Aside0 (gb283 ≠ gb276) := ⟨h6_⟩
          have n7_ : Aside0 (Below w.heap.size w w26) := ⟨h7_⟩
          clear HO279
          clear BK276
          clear HB
          clear h0_ h1_ h2_ h3_ h4_ h5_ h6_ h7_
          have HO279 := n0_
          have BK276 := n1_
          have BK283 := n2_
          have GW283 := n3_
          have GE283 := n4_
          have NB276_283 := n5_
          have NB283_276 := n6_
          have HB := n7_
          clear n0_ n1_ n2_ n3_ n4_ n5_ n6_ n7_
          have hHeld : w26.cell? ⟨gb276, 0, none⟩ = some (.int .i64 a1_0) ∧ w26.cell? ⟨gb276, 1, none⟩ = some (.string a1_1) := hS_
          refine norm_ (a' := ?_) ?_ ?_
          rotate_left
          · simp only [putAll, Act.put, List.setIfInBounds_toArray, List.set_cons_zero, List.set_cons_succ]
            rfl
          refine one_ (i := 7) (N := none) #[true, true, true, true, true, true, true, true] rfl rfl (one_of HT_.out (by kernel_rfl)) (by decide) (fun K hK => ?_)
          have hs27 : w26.cell? ⟨gb283, 0, none⟩ = some (.int .i64 0) := (blk_cell BK283.out 0).trans rfl
          have hfs27 := blk_frozen BK283.out 0
          have hns27_0 := NB276_283.out
          have hms27_0 := NB283_276.out
          have hs28 : w26.cell? ⟨gb283, 1, none⟩ = some (.string (⟨#[]⟩ : ByteArray)) := (blk_cell BK283.out 1).trans rfl
          have hfs28 := blk_frozen BK283.out 1
          have hns28_0 := NB276_283.out
          have hms28_0 := NB283_276.out
          refine skip_ (w1 := ?_) (by rfl) rfl ?_ ?_
          rotate_left
          · go_simp
            rfl
          refine hK.out _ _ ⟨((cell_far (p := ⟨gb283, _, none⟩) NB276_283.out _).trans (((cell_far (p := ⟨gb283, _, none⟩) NB276_283.out _).trans (hHeld.1)))), ((cell_far (p := ⟨gb283, _, none⟩) NB276_283.out _).trans (((cell_far (p := ⟨gb283, _, none⟩) NB276_283.out _).trans (hHeld.2))))⟩ (fun hHeld => ?_)
          clear hK K
          refine done_ (done_of HT_.out (by kernel_rfl)) ?_
          have hnb29 := NB276_283.out
          have hnc29 := NB283_276.out
          have hcz30_0 : w26.cell? ⟨gb276, 0, none⟩ = some (.int .i64 a1_0) := (blk_cell BK276.out 0).trans rfl
          have hcz30_1 : w26.cell? ⟨gb276, 1, none⟩ = some (.string a1_1) := (blk_cell BK276.out 1).trans rfl
          have hfz30_0 := blk_frozen BK276.out 0
          have hfz30_1 := blk_frozen BK276.out 1
          try go_wp2_with (first | ((with_reducible refine gate_callee (f := 22) rfl ?_); refine goesL_ (some 37) rfl rfl Try.func22 (by kernel_rfl) rfl #[.string t281, .agg #[.int .i64 a1_0, .string a1_1]] rfl (by (try simp only [List.map_toArray, List.map_cons, List.map_nil]); first | done | rfl | (simp only [List.length_drop, List.length_take]; rfl)) ?_; (with_reducible refine (store_Append.calls k t281 a1_0 a1_1 t284 t285 _ A10.out).mono ?_); rintro e w31 ⟨rfl, hb⟩; refine ⟨_, rfl, ?_⟩; have n0_ := Aside0.mk (Kd.R_below (by (with_reducible repeat (first | apply Kd.R_alloc | apply Kd.R_drewN | apply Kd.R_drew)); exact (Kd.R_mono (Kd.R_far (p := ⟨gb283, 1, none⟩) (Kd.R_far (p := ⟨gb283, 0, none⟩) (Kd.R_mono HO279.out (fun k_ hk => (⟨hk, hk.2⟩ : _ ∧ k_ ≠ gb283))) (fun _ hk => hk.2) (.int .i64 t282)) (fun _ hk => hk.2) (.string a1_1)) (fun _ h_ => h_.1))) hb); have n1_ := Aside0.mk (blk_below (g := gb276) (o := .cells #[.int .i64 a1_0, .string a1_1] 23 (0, 0)) (by (with_reducible repeat (first | refine blk_drewN ?_ _ | refine blk_drew ?_ | refine blk_alloc ?_ _)); refine blk_far ?_ NB276_283.out _; (with_reducible repeat (first | refine blk_drewN ?_ _ | refine blk_drew ?_ | refine blk_alloc ?_ _)); refine blk_far ?_ NB276_283.out _; (with_reducible repeat (first | refine blk_drewN ?_ _ | refine blk_drew ?_ | refine blk_alloc ?_ _)); exact BK276.out) hb); have n2_ := Aside0.mk (blk_below (g := gb283) (o := .cells #[.int .i64 t282, .string a1_1] 23 (0, 0)) (by (with_reducible repeat (first | refine blk_drewN ?_ _ | refine blk_drew ?_ | refine blk_alloc ?_ _)); refine blk_put (cs := #[.int .i64 t282, .string (⟨#[]⟩ : ByteArray)]) ?_ 1 _ rfl; (with_reducible repeat (first | refine blk_drewN ?_ _ | refine blk_drew ?_ | refine blk_alloc ?_ _)); refine blk_put (cs := #[.int .i64 0, .string (⟨#[]⟩ : ByteArray)]) ?_ 0 _ rfl; (with_reducible repeat (first | refine blk_drewN ?_ _ | refine blk_drew ?_ | refine blk_alloc ?_ _)); exact BK283.out) hb); have n3_ := Aside0.mk (below_step (by repeat (first | (with_reducible first | exact HB.out | apply below_alloc | apply pw_below_drewN | apply below_drew1 | refine below_set ?_ GE276.out | refine below_set ?_ GE283.out) | exact HB.out)) hb); clear HO279; clear BK276; clear BK283; clear HB; have HO279 := n0_; have BK276 := n1_; have BK283 := n2_; have HB := n3_; clear n0_ n1_ n2_ n3_; (try clear hb); (try clear hb2); (try clear hk); (try clear hi); have hcz32_0 : w31.cell? ⟨gb276, 0, none⟩ = some (.int .i64 a1_0) := (blk_cell BK276.out 0).trans rfl; have hcz32_1 : w31.cell? ⟨gb276, 1, none⟩ = some (.string a1_1) := (blk_cell BK276.out 1).trans rfl; have hfz32_0 := blk_frozen BK276.out 0; have hfz32_1 := blk_frozen BK276.out 1) | ((with_reducible refine gate_callee (f := 23) rfl ?_); refine goesL_ (some 43) rfl rfl Try.func23 (by kernel_rfl) rfl #[.string t281, .agg #[.int .i64 a1_0, .string a1_1]] rfl (by (try simp only [List.map_toArray, List.map_cons, List.map_nil]); first | done | rfl | (simp only [List.length_drop, List.length_take]; rfl)) ?_; (with_reducible refine (railplanref41_Append.calls k t281 a1_0 a1_1 t286 t287 _ A11.out).mono ?_); rintro e w33 ⟨rfl, hb⟩; refine ⟨_, rfl, ?_⟩; have n0_ := Aside0.mk (Kd.R_below (by (with_reducible repeat (first | apply Kd.R_alloc | apply Kd.R_drewN | apply Kd.R_drew)); exact HO279.out) hb); have n1_ := Aside0.mk (blk_below (g := gb276) (o := .cells #[.int .i64 a1_0, .string a1_1] 23 (0, 0)) (by (with_reducible repeat (first | refine blk_drewN ?_ _ | refine blk_drew ?_ | refine blk_alloc ?_ _)); exact BK276.out) hb); have n2_ := Aside0.mk (blk_below (g := gb283) (o := .cells #[.int .i64 t282, .string a1_1] 23 (0, 0)) (by (with_reducible repeat (first | refine blk_drewN ?_ _ | refine blk_drew ?_ | refine blk_alloc ?_ _)); exact BK283.out) hb); have n3_ := Aside0.mk (below_step (by repeat (first | (with_reducible first | exact HB.out | apply below_alloc | apply pw_below_drewN | apply below_drew1 | refine below_set ?_ GE276.out | refine below_set ?_ GE283.out) | exact HB.out)) hb); clear HO279; clear BK276; clear BK283; clear HB; have HO279 := n0_; have BK276 := n1_; have BK283 := n2_; have HB := n3_; clear n0_ n1_ n2_ n3_; (try clear hb); (try clear hb2); (try clear hk); (try clear hi); have hcz34_0 : w33.cell? ⟨gb283, 0, none⟩ = some (.int .i64 t282) := (blk_cell BK283.out 0).trans rfl; have hcz34_1 : w33.cell? ⟨gb283, 1, none⟩ = some (.string a1_1) := (blk_cell BK283.out 1).trans rfl; have hfz34_0 := blk_frozen BK283.out 0; have hfz34_1 := blk_frozen BK283.out 1) | ((with_reducible refine gate_callee (f := 22) rfl ?_); refine goesL_ (some 49) rfl rfl Try.func22 (by kernel_rfl) rfl #[.string t281, .agg #[.int .i64 t282, .string a1_1]] rfl (by (try simp only [List.map_toArray, List.map_cons, List.map_nil]); first | done | rfl | (simp only [List.length_drop, List.length_take]; rfl)) ?_; (with_reducible refine (store_Append.calls k t281 t282 a1_1 t288 t289 _ A12.out).mono ?_); rintro e w35 ⟨rfl, hb⟩; refine ⟨_, rfl, ?_⟩; have n0_ := Aside0.mk (Kd.R_below (by (with_reducible repeat (first | apply Kd.R_alloc | apply Kd.R_drewN | apply Kd.R_drew)); exact HO279.out) hb); have n1_ := Aside0.mk (blk_below (g := gb276) (o := .cells #[.int .i64 a1_0, .string a1_1] 23 (0, 0)) (by (with_reducible repeat (first | refine blk_drewN ?_ _ | refine blk_drew ?_ | refine blk_alloc ?_ _)); exact BK276.out) hb); have n2_ := Aside0.mk (blk_below (g := gb283) (o := .cells #[.int .i64 t282, .string a1_1] 23 (0, 0)) (by (with_reducible repeat (first | refine blk_drewN ?_ _ | refine blk_drew ?_ | refine blk_alloc ?_ _)); exact BK283.out) hb); have n3_ := Aside0.mk (below_step (by repeat (first | (with_reducible first | exact HB.out | apply below_alloc | apply pw_below_drewN | apply below_drew1 | refine below_set ?_ GE276.out | refine below_set ?_ GE283.out) | exact HB.out)) hb); clear HO279; clear BK276; clear BK283; clear HB; have HO279 := n0_; have BK276 := n1_; have BK283 := n2_; have HB := n3_; clear n0_ n1_ n2_ n3_; (try clear hb); (try clear hb2); (try clear hk); (try clear hi); have hcz36_0 : w35.cell? ⟨gb283, 0, none⟩ = some (.int .i64 t282) := (blk_cell BK283.out 0).trans rfl; have hcz36_1 : w35.cell? ⟨gb283, 1, none⟩ = some (.string a1_1) := (blk_cell BK283.out 1).trans rfl; have hfz36_0 := blk_frozen BK283.out 0; have hfz36_1 := blk_frozen BK283.out 1) | ((with_reducible refine gate_callee (f := 23) rfl ?_); refine goesL_ (some 55) rfl rfl Try.func23 (by kernel_rfl) rfl #[.string t281, .agg #[.int .i64 t282, .string a1_1]] rfl (by (try simp only [List.map_toArray, List.map_cons, List.map_nil]); first | done | rfl | (simp only [List.length_drop, List.length_take]; rfl)) ?_; (with_reducible refine (railplanref41_Append.calls k t281 t282 a1_1 t290 t291 _ A13.out).mono ?_); rintro e w37 ⟨rfl, hb⟩; refine ⟨_, rfl, ?_⟩; have n0_ := Aside0.mk (Kd.R_below (by (with_reducible repeat (first | apply Kd.R_alloc | apply Kd.R_drewN | apply Kd.R_drew)); exact HO279.out) hb); have n1_ := Aside0.mk (blk_below (g := gb276) (o := .cells #[.int .i64 a1_0, .string a1_1] 23 (0, 0)) (by (with_reducible repeat (first | refine blk_drewN ?_ _ | refine blk_drew ?_ | refine blk_alloc ?_ _)); exact BK276.out) hb); have n2_ := Aside0.mk (blk_below (g := gb283) (o := .cells #[.int .i64 t282, .string a1_1] 23 (0, 0)) (by (with_reducible repeat (first | refine blk_drewN ?_ _ | refine blk_drew ?_ | refine blk_alloc ?_ _)); exact BK283.out) hb); have n3_ := Aside0.mk (below_step (by repeat (first | (with_reducible first | exact HB.out | apply below_alloc | apply pw_below_drewN | apply below_drew1 | refine below_set ?_ GE276.out | refine below_set ?_ GE283.out) | exact HB.out)) hb); clear HO279; clear BK276; clear BK283; clear HB; have HO279 := n0_; have BK276 := n1_; have BK283 := n2_; have HB := n3_; clear n0_ n1_ n2_ n3_; (try clear hb); (try clear hb2); (try clear hk); (try clear hi)) | ((with_reducible refine gate_callee (f := 15) rfl ?_); refine goesL_ (some 58) rfl rfl Try.func15 (by kernel_rfl) rfl #[] rfl (by (try simp only [List.map_toArray, List.map_cons, List.map_nil]); first | done | rfl | (simp only [List.length_drop, List.length_take]; rfl)) ?_; (with_reducible refine (railplanlaw41_awake.calls k  true _ A14.out).mono ?_); rintro e w38 ⟨rfl, hb⟩; refine ⟨_, rfl, ?_⟩; have n0_ := Aside0.mk (Kd.R_below (by (with_reducible repeat (first | apply Kd.R_alloc | apply Kd.R_drewN | apply Kd.R_drew)); exact HO279.out) hb); have n1_ := Aside0.mk (blk_below (g := gb276) (o := .cells #[.int .i64 a1_0, .string a1_1] 23 (0, 0)) (by (with_reducible repeat (first | refine blk_drewN ?_ _ | refine blk_drew ?_ | refine blk_alloc ?_ _)); exact BK276.out) hb); have n2_ := Aside0.mk (blk_below (g := gb283) (o := .cells #[.int .i64 t282, .string a1_1] 23 (0, 0)) (by (with_reducible repeat (first | refine blk_drewN ?_ _ | refine blk_drew ?_ | refine blk_alloc ?_ _)); exact BK283.out) hb); have n3_ := Aside0.mk (below_step (by repeat (first | (with_reducible first | exact HB.out | apply below_alloc | apply pw_below_drewN | apply below_drew1 | refine below_set ?_ GE276.out | refine below_set ?_ GE283.out) | exact HB.out)) hb); clear HO279; clear BK276; clear BK283; clear HB; have HO279 := n0_; have BK276 := n1_; have BK283 := n2_; have HB := n3_; clear n0_ n1_ n2_ n3_; (try clear hb); (try clear hb2); (try clear hk); (try clear hi)))
          go_ret
          exact ⟨by first | rfl | (simp [errW_none, errW_some] <;> rfl) | (simp [*, errW_none, errW_some] <;> rfl), by repeat (first | (with_reducible first | exact HB.out | apply below_alloc | apply pw_below_drewN | apply below_drew1 | refine below_set ?_ GE276.out | refine below_set ?_ GE283.out) | exact HB.out)⟩
        · rw [if_neg c18] at H
          have c18b0 : (t288.toList == t290.toList) = false := beq_eq_false_iff_ne.mpr c18
          have c18b1 : (t288.toList != t290.toList) = true := bne_iff_ne.mpr c18
          obtain rfl := Option.some.inj H
          exact absurd hr_.out (by decide)
      · rw [if_neg c17] at H
        have c17b0 : (t285 == t287) = false := beq_eq_false_iff_ne.mpr c17
        have c17b1 : (t285 != t287) = true := bne_iff_ne.mpr c17
        obtain rfl := Option.some.inj H
        exact absurd hr_.out (by decide)
    · rw [if_neg c16] at H
      have c16b0 : (t284.toList == t286.toList) = false := beq_eq_false_iff_ne.mpr c16
      have c16b1 : (t284.toList != t286.toList) = true := bne_iff_ne.mpr c16
      obtain rfl := Option.some.inj H
      exact absurd hr_.out (by decide)
  · replace c15 := Bool.eq_false_iff.mpr c15
    subst c15
    have H1 : (some false) = some r := by rw [if_neg (show ¬ (false = true) by decide)] at H; exact H
    clear H
    have H := H1
    clear H1
    obtain rfl := Option.some.inj H
    exact absurd hr_.out (by decide)

def railplanlaw41_StoreAppend.Pure : Prop := ∀ (l0 : List Int) (a1_0 : Int) (a1_1 : ByteArray) (a2 : Int) (a3 : Int) (a4 : Int), (fun xs : List Int => xs.length * 8 ≤ 140737488351232 ∧ xs.length ≤ maxLen ∧ ∀ x ∈ xs, (fun x : Int => (Lit.int .i64 x).wf = true) x) l0 → (fun x : Int => (Lit.int .i64 x).wf = true) a1_0 → (fun x : ByteArray => x.size ≤ 140737488351232) a1_1 → (fun x : Int => (Lit.int .i64 x).wf = true) a2 → (fun x : Int => (Lit.int .i64 x).wf = true) a3 → (fun x : Int => (Lit.int .i64 x).wf = true) a4 → ∃ k, railplanlaw41_StoreAppend.f k l0 a1_0 a1_1 a2 a3 a4 = some true

end Go.Proofs.Ytolckgeffmaakaa.X
