/- Written by a program of this claim. Proved: each Go function named below, called with any arguments at which its Lean function answers, returns that answer; or, of a law, its given statement. -/
import Derived.Test.YtolckgeffmaakaaX0
import Derived.Test.YtolckgeffmaakaaX1
import Derived.Test.YtolckgeffmaakaaX3
import Derived.Test.YtolckgeffmaakaaX5
import Derived.Test.YtolckgeffmaakaaX6
import Derived.Test.YtolckgeffmaakaaX7
import Derived.Test.YtolckgeffmaakaaX9
import Derived.Test.YtolckgeffmaakaaX10
import Derived.Test.YtolckgeffmaakaaX13
import Derived.Test.YtolckgeffmaakaaQCompact
namespace Go.Proofs.Ytolckgeffmaakaa.X
open Go.RowKit Go.Proofs.YtolckgeffmaakaaW Go.Proofs.YtolckgeffmaakaaW.PrintWords Go.Proofs.YtolckgeffmaakaaW.PrintLast Go.Proofs.YtolckgeffmaakaaW.PrintMore
attribute [local go_sem] max2_int min2_int max_two min_two max_three min_three max_four min_four   -- for this text's walks alone
set_option linter.unusedVariables false
set_option linter.unusedSimpArgs false

attribute [local go_sem high] eqA23
/-! ### railplanref41_Latest: function 27 -/
def railplanref41_Latest.f (k : Nat) (a0 : ByteArray) : Option (Int × ByteArray × Int) := (railplanref41_Scan.f k a0).bind fun bt417 => (if (bt417.1.length : Int) = 0 then (some (0, (⟨#[]⟩ : ByteArray), 6)) else (if 0 ≤ (wrap64 ((bt417.1.length : Int) - 1)) then (if (wrap64 ((bt417.1.length : Int) - 1)) < (bt417.1.length : Int) then (some ((rd_T23 bt417.1 (wrap64 ((bt417.1.length : Int) - 1))).f0, (rd_T23 bt417.1 (wrap64 ((bt417.1.length : Int) - 1))).f1, 0)) else (none)) else (none)))
theorem railplanref41_Latest.mono : ∀ a0 k, LeO (railplanref41_Latest.f k a0) (railplanref41_Latest.f (k + 1) a0) := by
  intro a0 k
  unfold railplanref41_Latest.f
  repeat' first
      | (with_reducible exact railplanref41_Scan.mono _ _)
      | (with_reducible exact LeO.refl _)
      | (with_reducible exact LeO.none _)
      | (with_reducible refine LeO.ite ?_ ?_)
      | (with_reducible refine LeO.bind ?_ (fun _ => ?_))
      | exact railplanref41_Scan.mono _ _
      | exact LeO.none _
      | refine LeO.ite ?_ ?_
      | refine LeO.bind ?_ (fun _ => ?_)
set_option maxHeartbeats 8000000 in
set_option maxRecDepth 100000 in
theorem railplanref41_Latest.calls (k : Nat) (a0 : ByteArray) (r1 : Int) (r2 : ByteArray) (r3 : Int) (w : World) (h : railplanref41_Latest.f k a0 = some (r1, r2, r3)) :
    Calls Try.prog 27 #[.string a0] w fun e w' => e = .returned (.tuple #[.agg #[.int .i64 r1, .string r2], .int .i64 r3]) ∧ Below w.heap.size w w' := by
  have hu23 := Try.underlying23
  have HB := Aside0.mk (Below.refl w.heap.size w)
  have H : ((railplanref41_Scan.f k a0).bind fun bt417 => (if (bt417.1.length : Int) = 0 then (some (0, (⟨#[]⟩ : ByteArray), 6)) else (if 0 ≤ (wrap64 ((bt417.1.length : Int) - 1)) then (if (wrap64 ((bt417.1.length : Int) - 1)) < (bt417.1.length : Int) then (some ((rd_T23 bt417.1 (wrap64 ((bt417.1.length : Int) - 1))).f0, (rd_T23 bt417.1 (wrap64 ((bt417.1.length : Int) - 1))).f1, 0)) else (none)) else (none)))) = some (r1, r2, r3) := h
  clear h
  replace H := Option.bind_eq_some_iff.mp H
  obtain ⟨⟨t417, t418⟩, A20, H⟩ := H
  replace H : (if (t417.length : Int) = 0 then (some (0, (⟨#[]⟩ : ByteArray), 6)) else (if 0 ≤ (wrap64 ((t417.length : Int) - 1)) then (if (wrap64 ((t417.length : Int) - 1)) < (t417.length : Int) then (some ((rd_T23 t417 (wrap64 ((t417.length : Int) - 1))).f0, (rd_T23 t417 (wrap64 ((t417.length : Int) - 1))).f1, 0)) else (none)) else (none))) = some (r1, r2, r3) := H
  have A2 := Aside0.mk A20
  clear A20
  by_cases c3 : (t417.length : Int) = 0
  · rw [if_pos c3] at H
    have c3b0 : ((t417.length : Int) == 0) = true := beq_iff_eq.mpr c3
    have c3b1 : ((t417.length : Int) != 0) = false := bne_eq_false_iff_eq.mpr c3
    clear c3
    simp only [Option.some.injEq, Prod.mk.injEq] at H
    obtain ⟨rfl, rfl, rfl⟩ := H
    go_enter Try.func27, Try.ntmps27
    go_wp2_with (first | ((with_reducible refine gate_dst (N := 2) rfl ?_); refine box_event ?hg (N := 2) ?hd (cs := #[.int .i64 0, .string (⟨#[]⟩ : ByteArray)]) (t := 23) ?hr ?_; (case hd => rfl); (case hg => rfl); (case hr => first | (go_simp; done) | (go_simp; rfl)); intro gb416 hg w4 hbox hb; have n0_ := Aside0.mk (below_step (by repeat (first | (with_reducible first | exact HB.out | apply below_alloc | apply pw_below_drewN | apply below_drew1) | exact HB.out)) hb); have n1_ := Aside0.mk (hbox); have n2_ := Aside0.mk ((by rw [hg]; exact (below_size (by repeat (first | (with_reducible first | exact HB.out | apply below_alloc | apply pw_below_drewN | apply below_drew1) | exact HB.out))) : w.heap.size ≤ gb416)); have n3_ := Aside0.mk ((by rw [hg]; exact (below_size (by repeat (first | (with_reducible first | exact HB.out | apply below_alloc | apply pw_below_drewN | apply below_drew1) | exact HB.out))) : w.heap.size ≤ gb416)); clear HB; have HB := n0_; have BK416 := n1_; have GW416 := n2_; have GE416 := n3_; clear n0_ n1_ n2_ n3_; clear hb hbox hg) | ((with_reducible refine gate_callee (f := 20) rfl ?_); refine goesL_ (some 8) rfl rfl Try.func20 (by kernel_rfl) rfl #[.string a0] rfl (by (try simp only [List.map_toArray, List.map_cons, List.map_nil]); first | done | rfl | (simp only [List.length_drop, List.length_take]; rfl)) ?_; (with_reducible refine (railplanref41_Scan.calls k a0 t417 t418 _ A2.out).mono ?_); rintro e w5 ⟨v419, rfl, ho0, hb⟩; refine ⟨_, rfl, ?_⟩; have n0_ := Aside0.mk (Kd.R_lower (Kd.R_newB ho0 (g := gb416) (o := .cells #[.int .i64 0, .string (⟨#[]⟩ : ByteArray)] 23 (0, 0)) (by (with_reducible repeat (first | refine blk_drewN ?_ _ | refine blk_drew ?_ | refine blk_alloc ?_ _)); exact BK416.out)) (below_size (by repeat (first | (with_reducible first | exact HB.out | apply below_alloc | apply pw_below_drewN | apply below_drew1 | refine below_set ?_ GE416.out) | exact HB.out)))); have n1_ := Aside0.mk (blk_below (g := gb416) (o := .cells #[.int .i64 0, .string (⟨#[]⟩ : ByteArray)] 23 (0, 0)) (by (with_reducible repeat (first | refine blk_drewN ?_ _ | refine blk_drew ?_ | refine blk_alloc ?_ _)); exact BK416.out) hb); have n2_ := Aside0.mk (below_step (by repeat (first | (with_reducible first | exact HB.out | apply below_alloc | apply pw_below_drewN | apply below_drew1 | refine below_set ?_ GE416.out) | exact HB.out)) hb); clear BK416; clear HB; have HO420 := n0_; have BK416 := n1_; have HB := n2_; clear n0_ n1_ n2_; (try clear hb); (try clear hb2); (try clear hk); (try clear hi); (try clear ho0); obtain ⟨Ao6, co6, eo6⟩ := Kd.R_slice HO420.out; subst eo6; have hcz7_0 : w5.cell? ⟨gb416, 0, none⟩ = some (.int .i64 0) := (blk_cell BK416.out 0).trans rfl; have hcz7_1 : w5.cell? ⟨gb416, 1, none⟩ = some (.string (⟨#[]⟩ : ByteArray)) := (blk_cell BK416.out 1).trans rfl; have hfz7_0 := blk_frozen BK416.out 0; have hfz7_1 := blk_frozen BK416.out 1))
    refine bodyPost_ret (results_ct rfl _ _ gb416 23 #[.int .i64 0, .string (⟨#[]⟩ : ByteArray)] (0, 0) _ rfl (by (with_reducible repeat (first | refine blk_drewN ?_ _ | refine blk_drew ?_ | refine blk_alloc ?_ _)); refine blk_put (cs := #[.int .i64 0, .string (⟨#[]⟩ : ByteArray)]) ?_ 1 _ rfl; (with_reducible repeat (first | refine blk_drewN ?_ _ | refine blk_drew ?_ | refine blk_alloc ?_ _)); refine blk_put (cs := #[.int .i64 0, .string (⟨#[]⟩ : ByteArray)]) ?_ 0 _ rfl; (with_reducible repeat (first | refine blk_drewN ?_ _ | refine blk_drew ?_ | refine blk_alloc ?_ _)); exact BK416.out) Try.underlying23 rfl (by kernel_rfl)) rfl ?_
    exact ⟨by first | rfl | (simp [errW_none, errW_some] <;> rfl) | (simp [*, errW_none, errW_some] <;> rfl), by repeat (first | (with_reducible first | exact HB.out | apply below_alloc | apply pw_below_drewN | apply below_drew1 | refine below_set ?_ GE416.out) | exact HB.out)⟩
  · rw [if_neg c3] at H
    have c3b0 : ((t417.length : Int) == 0) = false := beq_eq_false_iff_ne.mpr c3
    have c3b1 : ((t417.length : Int) != 0) = true := bne_iff_ne.mpr c3
    have c3b2 : ¬ (t417 = []) := fun h_ => c3 (by rw [h_]; rfl)
    obtain ⟨ji8, hji8⟩ : ∃ j_ : Int, (wrap64 ((t417.length : Int) - 1)) = j_ := ⟨_, rfl⟩
    replace H : (if 0 ≤ (ji8) then (if (ji8) < (t417.length : Int) then (some ((rd_T23 t417 (ji8)).f0, (rd_T23 t417 (ji8)).f1, 0)) else (none)) else (none)) = some (r1, r2, r3) := by first | (rw [hji8] at H; exact H) | (simp only [hji8] at H ⊢; exact H)
    (try rw [hji8] at A2)
    have hji8w : (IntKind.i64.wrap ((t417.length : Int) - 1)) = ji8 := (i64_w _).trans hji8
    by_cases c9 : 0 ≤ (ji8)
    · rw [if_pos c9] at H
      have c9b0 : decide (0 ≤ (ji8)) = true := decide_eq_true c9
      clear c9
      by_cases c10 : (ji8) < (t417.length : Int)
      · rw [if_pos c10] at H
        have c10b0 : decide ((ji8) < (t417.length : Int)) = true := decide_eq_true c10
        clear c10
        simp only [Option.some.injEq, Prod.mk.injEq] at H
        obtain ⟨rfl, rfl, rfl⟩ := H
        go_enter Try.func27, Try.ntmps27
        go_wp2_with (first | ((with_reducible refine gate_dst (N := 2) rfl ?_); refine box_event ?hg (N := 2) ?hd (cs := #[.int .i64 0, .string (⟨#[]⟩ : ByteArray)]) (t := 23) ?hr ?_; (case hd => rfl); (case hg => rfl); (case hr => first | (go_simp; done) | (go_simp; rfl)); intro gb416 hg w11 hbox hb; have n0_ := Aside0.mk (below_step (by repeat (first | (with_reducible first | exact HB.out | apply below_alloc | apply pw_below_drewN | apply below_drew1) | exact HB.out)) hb); have n1_ := Aside0.mk (hbox); have n2_ := Aside0.mk ((by rw [hg]; exact (below_size (by repeat (first | (with_reducible first | exact HB.out | apply below_alloc | apply pw_below_drewN | apply below_drew1) | exact HB.out))) : w.heap.size ≤ gb416)); have n3_ := Aside0.mk ((by rw [hg]; exact (below_size (by repeat (first | (with_reducible first | exact HB.out | apply below_alloc | apply pw_below_drewN | apply below_drew1) | exact HB.out))) : w.heap.size ≤ gb416)); clear HB; have HB := n0_; have BK416 := n1_; have GW416 := n2_; have GE416 := n3_; clear n0_ n1_ n2_ n3_; clear hb hbox hg) | ((with_reducible refine gate_callee (f := 20) rfl ?_); refine goesL_ (some 8) rfl rfl Try.func20 (by kernel_rfl) rfl #[.string a0] rfl (by (try simp only [List.map_toArray, List.map_cons, List.map_nil]); first | done | rfl | (simp only [List.length_drop, List.length_take]; rfl)) ?_; (with_reducible refine (railplanref41_Scan.calls k a0 t417 t418 _ A2.out).mono ?_); rintro e w12 ⟨v419, rfl, ho0, hb⟩; refine ⟨_, rfl, ?_⟩; have n0_ := Aside0.mk (Kd.R_lower (Kd.R_newB ho0 (g := gb416) (o := .cells #[.int .i64 0, .string (⟨#[]⟩ : ByteArray)] 23 (0, 0)) (by (with_reducible repeat (first | refine blk_drewN ?_ _ | refine blk_drew ?_ | refine blk_alloc ?_ _)); exact BK416.out)) (below_size (by repeat (first | (with_reducible first | exact HB.out | apply below_alloc | apply pw_below_drewN | apply below_drew1 | refine below_set ?_ GE416.out) | exact HB.out)))); have n1_ := Aside0.mk (blk_below (g := gb416) (o := .cells #[.int .i64 0, .string (⟨#[]⟩ : ByteArray)] 23 (0, 0)) (by (with_reducible repeat (first | refine blk_drewN ?_ _ | refine blk_drew ?_ | refine blk_alloc ?_ _)); exact BK416.out) hb); have n2_ := Aside0.mk (below_step (by repeat (first | (with_reducible first | exact HB.out | apply below_alloc | apply pw_below_drewN | apply below_drew1 | refine below_set ?_ GE416.out) | exact HB.out)) hb); clear BK416; clear HB; have HO420 := n0_; have BK416 := n1_; have HB := n2_; clear n0_ n1_ n2_; (try clear hb); (try clear hb2); (try clear hk); (try clear hi); (try clear ho0); obtain ⟨Ao13, co13, eo13⟩ := Kd.R_slice HO420.out; subst eo13; have p421 : 0 ≤ ((ji8) : Int) := of_decide_eq_true (by first | (with_reducible assumption) | assumption); have q421 : (ji8) < (t417.length : Int) := of_decide_eq_true (by first | (with_reducible assumption) | assumption); obtain ⟨ad421, e421, hx421_0, hx421_1⟩ := at_T23 (Kd.R_reads' HO420.out).2.2 (ji8) p421 q421; cases e421; replace p421 := eq_true p421; replace q421 := eq_true q421; have hcz14_0 : w12.cell? ⟨gb416, 0, none⟩ = some (.int .i64 0) := (blk_cell BK416.out 0).trans rfl; have hcz14_1 : w12.cell? ⟨gb416, 1, none⟩ = some (.string (⟨#[]⟩ : ByteArray)) := (blk_cell BK416.out 1).trans rfl; have hfz14_0 := blk_frozen BK416.out 0; have hfz14_1 := blk_frozen BK416.out 1))
        refine bodyPost_ret (results_ct rfl _ _ gb416 23 #[.int .i64 ((rd_T23 t417 (ji8)).f0), .string ((rd_T23 t417 (ji8)).f1)] (0, 0) _ rfl (by (with_reducible repeat (first | refine blk_drewN ?_ _ | refine blk_drew ?_ | refine blk_alloc ?_ _)); refine blk_put (cs := #[.int .i64 ((rd_T23 t417 (ji8)).f0), .string (⟨#[]⟩ : ByteArray)]) ?_ 1 _ rfl; (with_reducible repeat (first | refine blk_drewN ?_ _ | refine blk_drew ?_ | refine blk_alloc ?_ _)); refine blk_put (cs := #[.int .i64 0, .string (⟨#[]⟩ : ByteArray)]) ?_ 0 _ rfl; (with_reducible repeat (first | refine blk_drewN ?_ _ | refine blk_drew ?_ | refine blk_alloc ?_ _)); exact BK416.out) Try.underlying23 rfl (by kernel_rfl)) rfl ?_
        exact ⟨by first | rfl | (simp [errW_none, errW_some] <;> rfl) | (simp only [← hji8]; first | rfl | (simp [errW_none, errW_some] <;> rfl)) | (simp [*, errW_none, errW_some] <;> rfl), by repeat (first | (with_reducible first | exact HB.out | apply below_alloc | apply pw_below_drewN | apply below_drew1 | refine below_set ?_ GE416.out) | exact HB.out)⟩
      · rw [if_neg c10] at H
        exact absurd H (by simp)
    · rw [if_neg c9] at H
      exact absurd H (by simp)

/-! ### railplanref41_Get: function 28 -/
def railplanref41_Get.l0 : Nat → Int → List (S23) → Int → Int → Option (Int × ByteArray × Int)
  | 0, _, _, _, _ => none
  | k + 1, x1, x15, x16, x17 => if x17 < x16 then (if 0 ≤ x17 then (if x17 < (x15.length : Int) then (if ((rd_T23 x15 x17).f0) = x1 then (some ((rd_T23 x15 x17).f0, (rd_T23 x15 x17).f1, 0)) else (railplanref41_Get.l0 k x1 x15 x16 (wrap64 (x17 + 1)))) else (none)) else (none)) else (some (0, (⟨#[]⟩ : ByteArray), 6))
def railplanref41_Get.f (k : Nat) (a0 : ByteArray) (a1 : Int) : Option (Int × ByteArray × Int) := (railplanref41_Scan.f k a0).bind fun bt423 => (railplanref41_Get.l0 k a1 bt423.1 (bt423.1.length : Int) 0)
theorem railplanref41_Get.mono_l : ∀ k, (∀ y0 y1 y2 y3, LeO (railplanref41_Get.l0 k y0 y1 y2 y3) (railplanref41_Get.l0 (k + 1) y0 y1 y2 y3))
  | 0 => fun _ _ _ _ r h => by simp [railplanref41_Get.l0] at h
  | k + 1 => by
    have ih0 := railplanref41_Get.mono_l k
    · intro y0 y1 y2 y3
      unfold railplanref41_Get.l0
      repeat' first
      | (with_reducible exact ih0 _ _ _ _)
      | (with_reducible exact railplanref41_Scan.mono _ _)
      | (with_reducible exact LeO.refl _)
      | (with_reducible exact LeO.none _)
      | (with_reducible refine LeO.ite ?_ ?_)
      | (with_reducible refine LeO.bind ?_ (fun _ => ?_))
      | exact ih0 _ _ _ _
      | exact railplanref41_Scan.mono _ _
      | exact LeO.none _
      | refine LeO.ite ?_ ?_
      | refine LeO.bind ?_ (fun _ => ?_)
theorem railplanref41_Get.mono : ∀ a0 a1 k, LeO (railplanref41_Get.f k a0 a1) (railplanref41_Get.f (k + 1) a0 a1) := by
  intro a0 a1 k
  have ih0 := railplanref41_Get.mono_l k
  unfold railplanref41_Get.f
  repeat' first
      | (with_reducible exact ih0 _ _ _ _)
      | (with_reducible exact railplanref41_Scan.mono _ _)
      | (with_reducible exact LeO.refl _)
      | (with_reducible exact LeO.none _)
      | (with_reducible refine LeO.ite ?_ ?_)
      | (with_reducible refine LeO.bind ?_ (fun _ => ?_))
      | exact ih0 _ _ _ _
      | exact railplanref41_Scan.mono _ _
      | exact LeO.none _
      | refine LeO.ite ?_ ?_
      | refine LeO.bind ?_ (fun _ => ?_)
set_option maxHeartbeats 8000000 in
set_option maxRecDepth 100000 in
theorem railplanref41_Get.calls (k : Nat) (a0 : ByteArray) (a1 : Int) (r1 : Int) (r2 : ByteArray) (r3 : Int) (w : World) (h : railplanref41_Get.f k a0 a1 = some (r1, r2, r3)) :
    Calls Try.prog 28 #[.string a0, .int .i64 a1] w fun e w' => e = .returned (.tuple #[.agg #[.int .i64 r1, .string r2], .int .i64 r3]) ∧ Below w.heap.size w w' := by
  have hu23 := Try.underlying23
  have HB := Aside0.mk (Below.refl w.heap.size w)
  have H : ((railplanref41_Scan.f k a0).bind fun bt423 => (railplanref41_Get.l0 k a1 bt423.1 (bt423.1.length : Int) 0)) = some (r1, r2, r3) := h
  clear h
  replace H := Option.bind_eq_some_iff.mp H
  obtain ⟨⟨t423, t424⟩, A30, H⟩ := H
  replace H : (railplanref41_Get.l0 k a1 t423 (t423.length : Int) 0) = some (r1, r2, r3) := H
  have A3 := Aside0.mk A30
  clear A30
  have H' := Aside0.mk H
  clear H
  go_enter Try.func28, Try.ntmps28
  go_wp2_with (first | ((with_reducible refine gate_dst (N := 4) rfl ?_); refine box_event ?hg (N := 4) ?hd (cs := #[.int .i64 0, .string (⟨#[]⟩ : ByteArray)]) (t := 23) ?hr ?_; (case hd => rfl); (case hg => rfl); (case hr => first | (go_simp; done) | (go_simp; rfl)); intro gb422 hg w4 hbox hb; have n0_ := Aside0.mk (below_step (by repeat (first | (with_reducible first | exact HB.out | apply below_alloc | apply pw_below_drewN | apply below_drew1) | exact HB.out)) hb); have n1_ := Aside0.mk (hbox); have n2_ := Aside0.mk ((by rw [hg]; exact (below_size (by repeat (first | (with_reducible first | exact HB.out | apply below_alloc | apply pw_below_drewN | apply below_drew1) | exact HB.out))) : w.heap.size ≤ gb422)); have n3_ := Aside0.mk ((by rw [hg]; exact (below_size (by repeat (first | (with_reducible first | exact HB.out | apply below_alloc | apply pw_below_drewN | apply below_drew1) | exact HB.out))) : w.heap.size ≤ gb422)); clear HB; have HB := n0_; have BK422 := n1_; have GW422 := n2_; have GE422 := n3_; clear n0_ n1_ n2_ n3_; clear hb hbox hg) | ((with_reducible refine gate_callee (f := 20) rfl ?_); refine goesL_ (some 12) rfl rfl Try.func20 (by kernel_rfl) rfl #[.string a0] rfl (by (try simp only [List.map_toArray, List.map_cons, List.map_nil]); first | done | rfl | (simp only [List.length_drop, List.length_take]; rfl)) ?_; (with_reducible refine (railplanref41_Scan.calls k a0 t423 t424 _ A3.out).mono ?_); rintro e w5 ⟨v425, rfl, ho0, hb⟩; refine ⟨_, rfl, ?_⟩; have n0_ := Aside0.mk (Kd.R_lower (Kd.R_newB ho0 (g := gb422) (o := .cells #[.int .i64 0, .string (⟨#[]⟩ : ByteArray)] 23 (0, 0)) (by (with_reducible repeat (first | refine blk_drewN ?_ _ | refine blk_drew ?_ | refine blk_alloc ?_ _)); exact BK422.out)) (below_size (by repeat (first | (with_reducible first | exact HB.out | apply below_alloc | apply pw_below_drewN | apply below_drew1 | refine below_set ?_ GE422.out) | exact HB.out)))); have n1_ := Aside0.mk (blk_below (g := gb422) (o := .cells #[.int .i64 0, .string (⟨#[]⟩ : ByteArray)] 23 (0, 0)) (by (with_reducible repeat (first | refine blk_drewN ?_ _ | refine blk_drew ?_ | refine blk_alloc ?_ _)); exact BK422.out) hb); have n2_ := Aside0.mk (below_step (by repeat (first | (with_reducible first | exact HB.out | apply below_alloc | apply pw_below_drewN | apply below_drew1 | refine below_set ?_ GE422.out) | exact HB.out)) hb); clear BK422; clear HB; have HO426 := n0_; have BK422 := n1_; have HB := n2_; clear n0_ n1_ n2_; (try clear hb); (try clear hb2); (try clear hk); (try clear hi); (try clear ho0); obtain ⟨Ao6, co6, eo6⟩ := Kd.R_slice HO426.out; subst eo6))
  go_loopg [17] k (fun kq v17 w' => ∃ (x17_1 : Int) (x423000_1 : Int) (x423001_1 : ByteArray), v17 = .int .i64 x17_1 ∧ Aside0 (railplanref41_Get.l0 kq a1 t423 (t423.length : Int) x17_1 = some (r1, r2, r3)) ∧ Aside0 (kq ≤ k) ∧ Aside0 (Kd.R k23 23 w' w.heap.size (fun k_ => k_ ≠ gb422) (.slice Ao6 t423.length co6) t423) ∧ Aside0 (w'.heap[gb422]? = some (.cells #[.int .i64 x423000_1, .string x423001_1] 23 (0, 0))) ∧ Aside0 (Below w.heap.size w w'))
  case atStart => exact ⟨(0), (0), ((⟨#[]⟩ : ByteArray)), (by first | rfl | (simp; done) | (simp [*]; done)), H', ⟨Nat.le_refl _⟩, ⟨by (with_reducible repeat (first | apply Kd.R_alloc | apply Kd.R_drewN | apply Kd.R_drew)); exact Kd.R_mono HO426.out (fun _ hk => hk.2)⟩, ⟨by (with_reducible repeat (first | refine blk_drewN ?_ _ | refine blk_drew ?_ | refine blk_alloc ?_ _)); exact BK422.out⟩, ⟨by repeat (first | (with_reducible first | exact HB.out | apply below_alloc | apply pw_below_drewN | apply below_drew1 | refine below_set ?_ GE422.out) | exact HB.out)⟩⟩
  case round =>
    clear H'
    try clear c2
    try clear p2
    obtain ⟨x17_1, x423000_1, x423001_1, rfl, HA, HK1, HO_15, BK422, HB⟩ := hrel
    cases gk with
    | zero => exact absurd HA.out (by simp [railplanref41_Get.l0])
    | succ k1 =>
      have H := HA.out
      clear HA
      simp only [railplanref41_Get.l0] at H
      by_cases c7 : x17_1 < (t423.length : Int)
      · rw [if_pos c7] at H
        have c7b0 : decide (x17_1 < (t423.length : Int)) = true := decide_eq_true c7
        clear c7
        by_cases c8 : 0 ≤ x17_1
        · rw [if_pos c8] at H
          have c8b0 : decide (0 ≤ x17_1) = true := decide_eq_true c8
          clear c8
          by_cases c9 : x17_1 < (t423.length : Int)
          · rw [if_pos c9] at H
            have c9b0 : decide (x17_1 < (t423.length : Int)) = true := decide_eq_true c9
            clear c9
            by_cases c10 : ((rd_T23 t423 x17_1).f0) = a1
            · rw [if_pos c10] at H
              have c10b0 : (((rd_T23 t423 x17_1).f0) == a1) = true := beq_iff_eq.mpr c10
              have c10b1 : (((rd_T23 t423 x17_1).f0) != a1) = false := bne_eq_false_iff_eq.mpr c10
              clear c10
              simp only [Option.some.injEq, Prod.mk.injEq] at H
              obtain ⟨rfl, rfl, rfl⟩ := H
              have p427 : 0 ≤ (x17_1 : Int) := of_decide_eq_true (by first | (with_reducible assumption) | assumption)
              have q427 : x17_1 < (t423.length : Int) := of_decide_eq_true (by first | (with_reducible assumption) | assumption)
              obtain ⟨ad427, e427, hx427_0, hx427_1⟩ := at_T23 (Kd.R_reads' HO_15.out).2.2 x17_1 p427 q427
              cases e427
              replace p427 := eq_true p427
              replace q427 := eq_true q427
              go_wp2_with (first | ((with_reducible refine gate_dst (N := 9) rfl ?_); refine box_event ?hg (N := 9) ?hd (cs := #[.int .i64 0, .string (⟨#[]⟩ : ByteArray)]) (t := 23) ?hr ?_; (case hd => rfl); (case hg => rfl); (case hr => first | (go_simp; done) | (go_simp; rfl)); intro gb428 hg w11 hbox hb; have n0_ := Aside0.mk (Kd.R_below (Kd.R_elderB (by (with_reducible repeat (first | apply Kd.R_alloc | apply Kd.R_drewN | apply Kd.R_drew)); exact HO_15.out) gb428 (Nat.le_of_eq hg.symm)) hb); have n1_ := Aside0.mk (blk_below (g := gb422) (o := .cells #[.int .i64 x423000_1, .string x423001_1] 23 (0, 0)) (by (with_reducible repeat (first | refine blk_drewN ?_ _ | refine blk_drew ?_ | refine blk_alloc ?_ _)); exact BK422.out) hb); have n2_ := Aside0.mk (below_step (by repeat (first | (with_reducible first | exact HB.out | apply below_alloc | apply pw_below_drewN | apply below_drew1 | refine below_set ?_ GE422.out) | exact HB.out)) hb); have n3_ := Aside0.mk (hbox); have n4_ := Aside0.mk ((by rw [hg]; exact (below_size (by repeat (first | (with_reducible first | exact HB.out | apply below_alloc | apply pw_below_drewN | apply below_drew1 | refine below_set ?_ GE422.out) | exact HB.out))) : w.heap.size ≤ gb428)); have n5_ := Aside0.mk ((by rw [hg]; exact (below_size (by repeat (first | (with_reducible first | exact HB.out | apply below_alloc | apply pw_below_drewN | apply below_drew1 | refine below_set ?_ GE422.out) | exact HB.out))) : w.heap.size ≤ gb428)); have n6_ := Aside0.mk ((by rw [hg]; exact Nat.ne_of_lt (blk_lt (g := gb422) (o := .cells #[.int .i64 x423000_1, .string x423001_1] 23 (0, 0)) (by (with_reducible repeat (first | refine blk_drewN ?_ _ | refine blk_drew ?_ | refine blk_alloc ?_ _)); exact BK422.out)) : gb422 ≠ gb428)); have n7_ := Aside0.mk ((by rw [hg]; exact Nat.ne_of_gt (blk_lt (g := gb422) (o := .cells #[.int .i64 x423000_1, .string x423001_1] 23 (0, 0)) (by (with_reducible repeat (first | refine blk_drewN ?_ _ | refine blk_drew ?_ | refine blk_alloc ?_ _)); exact BK422.out)) : gb428 ≠ gb422)); clear HO_15; clear BK422; clear HB; have HO_15 := n0_; have BK422 := n1_; have HB := n2_; have BK428 := n3_; have GW428 := n4_; have GE428 := n5_; have NB422_428 := n6_; have NB428_422 := n7_; clear n0_ n1_ n2_ n3_ n4_ n5_ n6_ n7_; clear hb hbox hg; have hnb12 := NB428_422.out; have hnc12 := NB422_428.out; have hcz13_0 : w11.cell? ⟨gb428, 0, none⟩ = some (.int .i64 0) := (blk_cell BK428.out 0).trans rfl; have hcz13_1 : w11.cell? ⟨gb428, 1, none⟩ = some (.string (⟨#[]⟩ : ByteArray)) := (blk_cell BK428.out 1).trans rfl; have hfz13_0 := blk_frozen BK428.out 0; have hfz13_1 := blk_frozen BK428.out 1; have hcz14_0 : w11.cell? ⟨gb422, 0, none⟩ = some (.int .i64 x423000_1) := (blk_cell BK422.out 0).trans rfl; have hcz14_1 : w11.cell? ⟨gb422, 1, none⟩ = some (.string x423001_1) := (blk_cell BK422.out 1).trans rfl; have hfz14_0 := blk_frozen BK422.out 0; have hfz14_1 := blk_frozen BK422.out 1))
              refine bodyPost_ret (results_ct rfl _ _ gb422 23 #[.int .i64 ((rd_T23 t423 x17_1).f0), .string ((rd_T23 t423 x17_1).f1)] (0, 0) _ rfl (by (with_reducible repeat (first | refine blk_drewN ?_ _ | refine blk_drew ?_ | refine blk_alloc ?_ _)); refine blk_put (cs := #[.int .i64 ((rd_T23 t423 x17_1).f0), .string x423001_1]) ?_ 1 _ rfl; (with_reducible repeat (first | refine blk_drewN ?_ _ | refine blk_drew ?_ | refine blk_alloc ?_ _)); refine blk_put (cs := #[.int .i64 x423000_1, .string x423001_1]) ?_ 0 _ rfl; (with_reducible repeat (first | refine blk_drewN ?_ _ | refine blk_drew ?_ | refine blk_alloc ?_ _)); refine blk_far ?_ NB422_428.out _; (with_reducible repeat (first | refine blk_drewN ?_ _ | refine blk_drew ?_ | refine blk_alloc ?_ _)); refine blk_far ?_ NB422_428.out _; (with_reducible repeat (first | refine blk_drewN ?_ _ | refine blk_drew ?_ | refine blk_alloc ?_ _)); exact BK422.out) Try.underlying23 rfl (by kernel_rfl)) rfl ?_
              exact ⟨by first | rfl | (simp [errW_none, errW_some] <;> rfl) | (simp [*, errW_none, errW_some] <;> rfl), by repeat (first | (with_reducible first | exact HB.out | apply below_alloc | apply pw_below_drewN | apply below_drew1 | refine below_set ?_ GE422.out | refine below_set ?_ GE428.out) | exact HB.out)⟩
            · rw [if_neg c10] at H
              have c10b0 : (((rd_T23 t423 x17_1).f0) == a1) = false := beq_eq_false_iff_ne.mpr c10
              have c10b1 : (((rd_T23 t423 x17_1).f0) != a1) = true := bne_iff_ne.mpr c10
              have H' := Aside0.mk H
              clear H
              have p427 : 0 ≤ (x17_1 : Int) := of_decide_eq_true (by first | (with_reducible assumption) | assumption)
              have q427 : x17_1 < (t423.length : Int) := of_decide_eq_true (by first | (with_reducible assumption) | assumption)
              obtain ⟨ad427, e427, hx427_0, hx427_1⟩ := at_T23 (Kd.R_reads' HO_15.out).2.2 x17_1 p427 q427
              cases e427
              replace p427 := eq_true p427
              replace q427 := eq_true q427
              go_wp2_with (first | ((with_reducible refine gate_dst (N := 9) rfl ?_); refine box_event ?hg (N := 9) ?hd (cs := #[.int .i64 0, .string (⟨#[]⟩ : ByteArray)]) (t := 23) ?hr ?_; (case hd => rfl); (case hg => rfl); (case hr => first | (go_simp; done) | (go_simp; rfl)); intro gb428 hg w15 hbox hb; have n0_ := Aside0.mk (Kd.R_below (Kd.R_elderB (by (with_reducible repeat (first | apply Kd.R_alloc | apply Kd.R_drewN | apply Kd.R_drew)); exact HO_15.out) gb428 (Nat.le_of_eq hg.symm)) hb); have n1_ := Aside0.mk (blk_below (g := gb422) (o := .cells #[.int .i64 x423000_1, .string x423001_1] 23 (0, 0)) (by (with_reducible repeat (first | refine blk_drewN ?_ _ | refine blk_drew ?_ | refine blk_alloc ?_ _)); exact BK422.out) hb); have n2_ := Aside0.mk (below_step (by repeat (first | (with_reducible first | exact HB.out | apply below_alloc | apply pw_below_drewN | apply below_drew1 | refine below_set ?_ GE422.out) | exact HB.out)) hb); have n3_ := Aside0.mk (hbox); have n4_ := Aside0.mk ((by rw [hg]; exact (below_size (by repeat (first | (with_reducible first | exact HB.out | apply below_alloc | apply pw_below_drewN | apply below_drew1 | refine below_set ?_ GE422.out) | exact HB.out))) : w.heap.size ≤ gb428)); have n5_ := Aside0.mk ((by rw [hg]; exact (below_size (by repeat (first | (with_reducible first | exact HB.out | apply below_alloc | apply pw_below_drewN | apply below_drew1 | refine below_set ?_ GE422.out) | exact HB.out))) : w.heap.size ≤ gb428)); have n6_ := Aside0.mk ((by rw [hg]; exact Nat.ne_of_lt (blk_lt (g := gb422) (o := .cells #[.int .i64 x423000_1, .string x423001_1] 23 (0, 0)) (by (with_reducible repeat (first | refine blk_drewN ?_ _ | refine blk_drew ?_ | refine blk_alloc ?_ _)); exact BK422.out)) : gb422 ≠ gb428)); have n7_ := Aside0.mk ((by rw [hg]; exact Nat.ne_of_gt (blk_lt (g := gb422) (o := .cells #[.int .i64 x423000_1, .string x423001_1] 23 (0, 0)) (by (with_reducible repeat (first | refine blk_drewN ?_ _ | refine blk_drew ?_ | refine blk_alloc ?_ _)); exact BK422.out)) : gb428 ≠ gb422)); clear HO_15; clear BK422; clear HB; have HO_15 := n0_; have BK422 := n1_; have HB := n2_; have BK428 := n3_; have GW428 := n4_; have GE428 := n5_; have NB422_428 := n6_; have NB428_422 := n7_; clear n0_ n1_ n2_ n3_ n4_ n5_ n6_ n7_; clear hb hbox hg; have hnb16 := NB428_422.out; have hnc16 := NB422_428.out; have hcz17_0 : w15.cell? ⟨gb428, 0, none⟩ = some (.int .i64 0) := (blk_cell BK428.out 0).trans rfl; have hcz17_1 : w15.cell? ⟨gb428, 1, none⟩ = some (.string (⟨#[]⟩ : ByteArray)) := (blk_cell BK428.out 1).trans rfl; have hfz17_0 := blk_frozen BK428.out 0; have hfz17_1 := blk_frozen BK428.out 1))
              go_roundg k1
              case measure => have := HK1.out; omega
              case rel => exact ⟨(wrap64 (x17_1 + 1)), (x423000_1), (x423001_1), (by first | rfl | (simp; done) | (simp [*]; done)), H', ⟨by have := HK1.out; omega⟩, ⟨by (with_reducible repeat (first | apply Kd.R_alloc | apply Kd.R_drewN | apply Kd.R_drew)); exact Kd.R_mono (Kd.R_far (p := ⟨gb428, 1, none⟩) (Kd.R_far (p := ⟨gb428, 0, none⟩) (Kd.R_mono HO_15.out (fun k_ hk => (⟨hk, hk.2⟩ : _ ∧ k_ ≠ gb428))) (fun _ hk => hk.2) (.int .i64 ((rd_T23 t423 x17_1).f0))) (fun _ hk => hk.2) (.string ((rd_T23 t423 x17_1).f1))) (fun _ hk => hk.1.1)⟩, ⟨by (with_reducible repeat (first | refine blk_drewN ?_ _ | refine blk_drew ?_ | refine blk_alloc ?_ _)); refine blk_far ?_ NB422_428.out _; (with_reducible repeat (first | refine blk_drewN ?_ _ | refine blk_drew ?_ | refine blk_alloc ?_ _)); refine blk_far ?_ NB422_428.out _; (with_reducible repeat (first | refine blk_drewN ?_ _ | refine blk_drew ?_ | refine blk_alloc ?_ _)); exact BK422.out⟩, ⟨by repeat (first | (with_reducible first | exact HB.out | apply below_alloc | apply pw_below_drewN | apply below_drew1 | refine below_set ?_ GE422.out | refine below_set ?_ GE428.out) | exact HB.out)⟩⟩
          · rw [if_neg c9] at H
            exact absurd H (by simp)
        · rw [if_neg c8] at H
          exact absurd H (by simp)
      · rw [if_neg c7] at H
        have c7b0 : decide (x17_1 < (t423.length : Int)) = false := decide_eq_false c7
        clear c7
        simp only [Option.some.injEq, Prod.mk.injEq] at H
        obtain ⟨rfl, rfl, rfl⟩ := H
        have hcz18_0 : wr.cell? ⟨gb422, 0, none⟩ = some (.int .i64 x423000_1) := (blk_cell BK422.out 0).trans rfl
        have hcz18_1 : wr.cell? ⟨gb422, 1, none⟩ = some (.string x423001_1) := (blk_cell BK422.out 1).trans rfl
        have hfz18_0 := blk_frozen BK422.out 0
        have hfz18_1 := blk_frozen BK422.out 1
        go_wp2
        refine bodyPost_ret (results_ct rfl _ _ gb422 23 #[.int .i64 0, .string (⟨#[]⟩ : ByteArray)] (0, 0) _ rfl (by (with_reducible repeat (first | refine blk_drewN ?_ _ | refine blk_drew ?_ | refine blk_alloc ?_ _)); refine blk_put (cs := #[.int .i64 0, .string x423001_1]) ?_ 1 _ rfl; (with_reducible repeat (first | refine blk_drewN ?_ _ | refine blk_drew ?_ | refine blk_alloc ?_ _)); refine blk_put (cs := #[.int .i64 x423000_1, .string x423001_1]) ?_ 0 _ rfl; (with_reducible repeat (first | refine blk_drewN ?_ _ | refine blk_drew ?_ | refine blk_alloc ?_ _)); exact BK422.out) Try.underlying23 rfl (by kernel_rfl)) rfl ?_
        exact ⟨by first | rfl | (simp [errW_none, errW_some] <;> rfl) | (simp [*, errW_none, errW_some] <;> rfl), by repeat (first | (with_reducible first | exact HB.out | apply below_alloc | apply pw_below_drewN | apply below_drew1 | refine below_set ?_ GE422.out) | exact HB.out)⟩

/-! ### railplanref41_Compact: function 29 -/
mutual
def railplanref41_Compact.j0 : Nat → ByteArray → Int → Bool → Option (ByteArray × Int)
  | 0, _, _, _ => none
  | k + 1, x0, x1, x18 => if x18 = true then (some ((⟨#[]⟩ : ByteArray), 4)) else ((railplanref41_Scan.f k x0).bind fun bt429 => (if 0 ≤ (mx 0 (wrap64 ((bt429.1.length : Int) - x1))) then (if (mx 0 (wrap64 ((bt429.1.length : Int) - x1))) ≤ (bt429.1.length : Int) then ((some (bt429.1.drop ((mx 0 (wrap64 ((bt429.1.length : Int) - x1))) : Int).toNat : List (S23))).bind fun y433 => (railplanref41_Compact.l0 k (⟨#[]⟩ : ByteArray) y433 (y433.length : Int) 0)) else (none)) else (none)))
def railplanref41_Compact.l0 : Nat → ByteArray → List (S23) → Int → Int → Option (ByteArray × Int)
  | 0, _, _, _, _ => none
  | k + 1, x8, x30, x31, x32 => if x32 < x31 then (if 0 ≤ x32 then (if x32 < (x30.length : Int) then ((railplanref41_Encode.f k ((rd_T23 x30 x32).f0) ((rd_T23 x30 x32).f1)).bind fun bt440 => (if x8.size + bt440.1.size ≤ 9223372036854775807 then (railplanref41_Compact.l0 k (x8 ++ bt440.1) x30 x31 (wrap64 (x32 + 1))) else (none))) else (none)) else (none)) else (some (x8, 0))
end
def railplanref41_Compact.f (k : Nat) (a0 : ByteArray) (a1 : Int) : Option (ByteArray × Int) := if a1 < 1 then (railplanref41_Compact.j0 k a0 a1 true) else (railplanref41_Compact.j0 k a0 a1 (decide (a1 > 64)))
theorem railplanref41_Compact.mono_l : ∀ k, (∀ y0 y1 y2, LeO (railplanref41_Compact.j0 k y0 y1 y2) (railplanref41_Compact.j0 (k + 1) y0 y1 y2)) ∧ (∀ y0 y1 y2 y3, LeO (railplanref41_Compact.l0 k y0 y1 y2 y3) (railplanref41_Compact.l0 (k + 1) y0 y1 y2 y3))
  | 0 => ⟨fun _ _ _ r h => by simp [railplanref41_Compact.j0] at h, fun _ _ _ _ r h => by simp [railplanref41_Compact.l0] at h⟩
  | k + 1 => by
    obtain ⟨ih0, ih1⟩ := railplanref41_Compact.mono_l k
    refine ⟨?_, ?_⟩
    · intro y0 y1 y2
      unfold railplanref41_Compact.j0
      repeat' first
      | (with_reducible exact ih0 _ _ _)
      | (with_reducible exact ih1 _ _ _ _)
      | (with_reducible exact railplanref41_Encode.mono _ _ _)
      | (with_reducible exact railplanref41_Scan.mono _ _)
      | (with_reducible exact LeO.refl _)
      | (with_reducible exact LeO.none _)
      | (with_reducible refine LeO.ite ?_ ?_)
      | (with_reducible refine LeO.bind ?_ (fun _ => ?_))
      | exact ih0 _ _ _
      | exact ih1 _ _ _ _
      | exact railplanref41_Encode.mono _ _ _
      | exact railplanref41_Scan.mono _ _
      | exact LeO.none _
      | refine LeO.ite ?_ ?_
      | refine LeO.bind ?_ (fun _ => ?_)
    · intro y0 y1 y2 y3
      unfold railplanref41_Compact.l0
      repeat' first
      | (with_reducible exact ih0 _ _ _)
      | (with_reducible exact ih1 _ _ _ _)
      | (with_reducible exact railplanref41_Encode.mono _ _ _)
      | (with_reducible exact railplanref41_Scan.mono _ _)
      | (with_reducible exact LeO.refl _)
      | (with_reducible exact LeO.none _)
      | (with_reducible refine LeO.ite ?_ ?_)
      | (with_reducible refine LeO.bind ?_ (fun _ => ?_))
      | exact ih0 _ _ _
      | exact ih1 _ _ _ _
      | exact railplanref41_Encode.mono _ _ _
      | exact railplanref41_Scan.mono _ _
      | exact LeO.none _
      | refine LeO.ite ?_ ?_
      | refine LeO.bind ?_ (fun _ => ?_)
theorem railplanref41_Compact.mono : ∀ a0 a1 k, LeO (railplanref41_Compact.f k a0 a1) (railplanref41_Compact.f (k + 1) a0 a1) := by
  intro a0 a1 k
  obtain ⟨ih0, ih1⟩ := railplanref41_Compact.mono_l k
  unfold railplanref41_Compact.f
  repeat' first
      | (with_reducible exact ih0 _ _ _)
      | (with_reducible exact ih1 _ _ _ _)
      | (with_reducible exact railplanref41_Encode.mono _ _ _)
      | (with_reducible exact railplanref41_Scan.mono _ _)
      | (with_reducible exact LeO.refl _)
      | (with_reducible exact LeO.none _)
      | (with_reducible refine LeO.ite ?_ ?_)
      | (with_reducible refine LeO.bind ?_ (fun _ => ?_))
      | exact ih0 _ _ _
      | exact ih1 _ _ _ _
      | exact railplanref41_Encode.mono _ _ _
      | exact railplanref41_Scan.mono _ _
      | exact LeO.none _
      | refine LeO.ite ?_ ?_
      | refine LeO.bind ?_ (fun _ => ?_)
set_option maxHeartbeats 8000000 in
set_option maxRecDepth 100000 in
theorem railplanref41_Compact.calls (k : Nat) (a0 : ByteArray) (a1 : Int) (r1 : ByteArray) (r2 : Int) (w : World) (h : railplanref41_Compact.f k a0 a1 = some (r1, r2)) :
    Calls Try.prog 29 #[.string a0, .int .i64 a1] w fun e w' => e = .returned (.tuple #[.string r1, .int .i64 r2]) ∧ Below w.heap.size w w' := by
  have hu23 := Try.underlying23
  have HB := Aside0.mk (Below.refl w.heap.size w)
  have H : (if a1 < 1 then (railplanref41_Compact.j0 k a0 a1 true) else (railplanref41_Compact.j0 k a0 a1 (decide (a1 > 64)))) = some (r1, r2) := h
  clear h
  have HC3 := Aside0.mk H
  clear H
  go_enter Try.func29, Try.ntmps29
  go_upto_region 1 with (fail)
  go_cut [18] (fun v18 wc => ∃ (kq : Nat) (x18_2 : Bool), v18 = .bool x18_2 ∧ Aside0 (railplanref41_Compact.j0 kq a0 a1 x18_2 = some (r1, r2)) ∧ Aside0 (kq ≤ k) ∧ Aside0 (Below w.heap.size w wc))
  case first =>
    have H := HC3.out
    clear HC3
    by_cases c4 : a1 < 1
    · rw [if_pos c4] at H
      have c4b0 : decide (a1 < 1) = true := decide_eq_true c4
      clear c4
      (first | rw [c4b0] | (simp only [i64_w, i32_w]; rw [c4b0]) | rw [c4b1] | skip)
      have H' := Aside0.mk H
      clear H
      go_wp2
      go_meet
      case rel => exact ⟨_, (true), (by first | rfl | (simp; done) | (simp [*]; done)), H', ⟨by first | omega | exact Nat.le_refl _⟩, ⟨by repeat (first | (with_reducible first | exact HB.out | apply below_alloc | apply pw_below_drewN | apply below_drew1) | exact HB.out)⟩⟩
    · rw [if_neg c4] at H
      have c4b0 : decide (a1 < 1) = false := decide_eq_false c4
      clear c4
      (first | rw [c4b0] | (simp only [i64_w, i32_w]; rw [c4b0]) | rw [c4b1] | skip)
      have H' := Aside0.mk H
      clear H
      go_wp2
      go_meet
      case rel => exact ⟨_, (decide (a1 > 64)), (by first | rfl | (simp; done) | (simp [*]; done)), H', ⟨by first | omega | exact Nat.le_refl _⟩, ⟨by repeat (first | (with_reducible first | exact HB.out | apply below_alloc | apply pw_below_drewN | apply below_drew1) | exact HB.out)⟩⟩
  case rest =>
    clear HC3
    try clear c2
    try clear p2
    try clear c4
    try clear c4b0
    try clear c4b1
    obtain ⟨kq, x18_2, rfl, HA, HJ2, HB⟩ := hcut
    cases kq with
    | zero => exact absurd HA.out (by simp [railplanref41_Compact.j0])
    | succ kj2 =>
      have H := HA.out
      clear HA
      simp only [railplanref41_Compact.j0] at H
      by_cases c5 : x18_2 = true
      · subst c5
        have H1 : (some ((⟨#[]⟩ : ByteArray), 4)) = some (r1, r2) := by rw [if_pos rfl] at H; exact H
        clear H
        have H := H1
        clear H1
        simp only [Option.some.injEq, Prod.mk.injEq] at H
        obtain ⟨rfl, rfl⟩ := H
        go_wp2
        go_ret2
        exact ⟨by first | rfl | (simp [errW_none, errW_some] <;> rfl) | (simp [*, errW_none, errW_some] <;> rfl), by repeat (first | (with_reducible first | exact HB.out | apply below_alloc | apply pw_below_drewN | apply below_drew1) | exact HB.out)⟩
      · replace c5 := Bool.eq_false_iff.mpr c5
        subst c5
        have H1 : ((railplanref41_Scan.f kj2 a0).bind fun bt429 => (if 0 ≤ (mx 0 (wrap64 ((bt429.1.length : Int) - a1))) then (if (mx 0 (wrap64 ((bt429.1.length : Int) - a1))) ≤ (bt429.1.length : Int) then ((some (bt429.1.drop ((mx 0 (wrap64 ((bt429.1.length : Int) - a1))) : Int).toNat : List (S23))).bind fun y433 => (railplanref41_Compact.l0 kj2 (⟨#[]⟩ : ByteArray) y433 (y433.length : Int) 0)) else (none)) else (none))) = some (r1, r2) := by rw [if_neg (show ¬ (false = true) by decide)] at H; exact H
        clear H
        have H := H1
        clear H1
        replace H := Option.bind_eq_some_iff.mp H
        obtain ⟨⟨t429, t430⟩, A60, H⟩ := H
        replace H : (if 0 ≤ (mx 0 (wrap64 ((t429.length : Int) - a1))) then (if (mx 0 (wrap64 ((t429.length : Int) - a1))) ≤ (t429.length : Int) then ((some (t429.drop ((mx 0 (wrap64 ((t429.length : Int) - a1))) : Int).toNat : List (S23))).bind fun y433 => (railplanref41_Compact.l0 kj2 (⟨#[]⟩ : ByteArray) y433 (y433.length : Int) 0)) else (none)) else (none)) = some (r1, r2) := H
        have A6 := Aside0.mk A60
        clear A60
        obtain ⟨ji7, hji7⟩ : ∃ j_ : Int, (mx 0 (wrap64 ((t429.length : Int) - a1))) = j_ := ⟨_, rfl⟩
        replace H : (if 0 ≤ (ji7) then (if (ji7) ≤ (t429.length : Int) then ((some (t429.drop ((ji7) : Int).toNat : List (S23))).bind fun y433 => (railplanref41_Compact.l0 kj2 (⟨#[]⟩ : ByteArray) y433 (y433.length : Int) 0)) else (none)) else (none)) = some (r1, r2) := by first | (rw [hji7] at H; exact H) | (simp only [hji7] at H ⊢; exact H)
        (try rw [hji7] at A6)
        have hji7_ : (if 0 < (wrap64 ((t429.length : Int) - a1)) then (wrap64 ((t429.length : Int) - a1)) else 0) = ji7 := hji7
        by_cases c8 : 0 ≤ (ji7)
        · rw [if_pos c8] at H
          have c8b0 := eq_true c8
          have c8b1 : decide (0 ≤ (ji7)) = true := decide_eq_true c8
          clear c8
          by_cases c9 : (ji7) ≤ (t429.length : Int)
          · rw [if_pos c9] at H
            have c9b0 := eq_true c9
            have c9b1 : decide ((ji7) ≤ (t429.length : Int)) = true := decide_eq_true c9
            clear c9
            obtain ⟨y433, hy433⟩ : ∃ y_ : List (S23), y_ = (t429.drop ((ji7) : Int).toNat) := ⟨_, rfl⟩
            replace H : (railplanref41_Compact.l0 kj2 (⟨#[]⟩ : ByteArray) y433 (y433.length : Int) 0) = some (r1, r2) := by first | (rw [hy433]; with_reducible exact H) | (have H2_ := (Option.bind_some _ _).symm.trans H; rw [hy433]; with_reducible exact H2_) | (have H2_ := (Option.bind_some _ _).symm.trans H; with_reducible exact H2_) | with_reducible exact H | (rw [hy433]; exact H) | exact H
            have Ny433 := Aside0.mk hy433
            clear hy433
            have H' := Aside0.mk H
            clear H
            go_wp2_with (first | ((with_reducible refine gate_callee (f := 20) rfl ?_); refine goesL_ (some 21) rfl rfl Try.func20 (by kernel_rfl) rfl #[.string a0] rfl (by (try simp only [List.map_toArray, List.map_cons, List.map_nil]); first | done | rfl | (simp only [List.length_drop, List.length_take]; rfl)) ?_; (with_reducible refine (railplanref41_Scan.calls kj2 a0 t429 t430 _ A6.out).mono ?_); rintro e w10 ⟨v431, rfl, ho0, hb⟩; refine ⟨_, rfl, ?_⟩; have n0_ := Aside0.mk (Kd.R_lower ho0 (below_size (by repeat (first | (with_reducible first | exact HB.out | apply below_alloc | apply pw_below_drewN | apply below_drew1) | exact HB.out)))); have n1_ := Aside0.mk (below_step (by repeat (first | (with_reducible first | exact HB.out | apply below_alloc | apply pw_below_drewN | apply below_drew1) | exact HB.out)) hb); clear HB; have HO432 := n0_; have HB := n1_; clear n0_ n1_; (try clear hb); (try clear hb2); (try clear hk); (try clear hi); (try clear ho0); obtain ⟨Ao11, co11, eo11⟩ := Kd.R_slice HO432.out; subst eo11; have q12 : ((ji7) : Int) ≤ ((t429.length : Int) : Int) := of_decide_eq_true (by first | (with_reducible assumption) | assumption); obtain ⟨i012, hi012, _, hsz12, _⟩ := info_parts info23; have hroom12 : t429.length ≤ co11 := (Kd.R_reads' HO432.out).2.1; have hC12 : Kd.F k23 _ _ Ao11 t429.length t429 := (Kd.V_at (base := w.heap.size) (Kd.R_V HO432.out)).2.2; have q012 : (0 : Int) ≤ ((ji7) : Int) := of_decide_eq_true (by first | (with_reducible assumption) | assumption); have hcut12 := cut_from (P := Try.prog) 32 23 .i64 Try.underlying32 hi012 2 hsz12 Ao11 t429.length co11 (ji7) q012 q12; have hr12 := Kd.F_cut (m := ((ji7) : Int).toNat) (c := co11) hC12 (by omega) hroom12; obtain ⟨A12, hA12⟩ : ∃ A1, A1 = (if co11 = ((ji7) : Int).toNat then Ao11 else (Ao11 : Option Addr).map (·.add (((ji7) : Int).toNat * 2))) := ⟨_, rfl⟩; obtain ⟨c12, hc12⟩ : ∃ c1, c1 = co11 - ((ji7) : Int).toNat := ⟨_, rfl⟩; have hy12 : y433.length = t429.length - ((ji7) : Int).toNat := (by rw [Ny433.out, List.length_drop] <;> omega); rw [show (t429).drop ((ji7) : Int).toNat = y433 from Ny433.out.symm] at hr12; replace hr12 : Kd.F k23 _ _ A12 y433.length y433 := (by rw [hA12]; exact hr12); rw [← hy12, ← hA12, ← hc12] at hcut12; have HO437 := Aside0.mk (show Kd.V k23 23 _ w.heap.size _ (.slice A12 y433.length c12) y433 from Kd.V_mk (by rw [hy12, hc12]; exact Nat.sub_le_sub_right hroom12 _) hr12); have HC437 := Aside0.mk (show y433.length ≤ c12 from by rw [hy12, hc12]; exact Nat.sub_le_sub_right hroom12 _); clear hr12 hC12 hroom12 hi012 hsz12 hc12; have KY12 := Aside0.mk hy12; have KA12 := Aside0.mk hA12; clear hy12 hA12; replace q12 := eq_true q12))
            go_loopg [8, 32] kj2 (fun kq v8 v32 w' => ∃ (x8_2 : ByteArray) (x32_2 : Int), v8 = .string x8_2 ∧ v32 = .int .i64 x32_2 ∧ Aside0 (railplanref41_Compact.l0 kq x8_2 y433 (y433.length : Int) x32_2 = some (r1, r2)) ∧ Aside0 (kq ≤ kj2) ∧ Aside0 (Kd.V k23 23 w' w.heap.size (fun _ => True) (.slice A12 y433.length c12) y433) ∧ Aside0 (Below w.heap.size w w'))
            case atStart => exact ⟨((⟨#[]⟩ : ByteArray)), (0), (by first | rfl | (simp; done) | (simp [*]; done)), (by first | rfl | (simp; done) | (simp [*]; done)), H', ⟨Nat.le_refl _⟩, ⟨by (with_reducible repeat (first | apply Kd.V_alloc | apply Kd.V_drewN | apply Kd.V_drew)); exact HO437.out⟩, ⟨by repeat (first | (with_reducible first | exact HB.out | apply below_alloc | apply pw_below_drewN | apply below_drew1) | exact HB.out)⟩⟩
            case round =>
              clear H'
              try clear c1
              try clear q1
              try clear c2
              try clear p2
              try clear c4
              try clear c4b0
              try clear c4b1
              try clear c5
              try clear p6
              try clear c8
              try clear c8b0
              try clear c8b1
              try clear c9
              try clear c9b0
              try clear c9b1
              try clear c12
              try clear q12
              try clear p2
              try clear q012
              try clear q12
              obtain ⟨x8_2, x32_2, rfl, rfl, HA, HK2, HO_30, HB⟩ := hrel
              cases gk with
              | zero => exact absurd HA.out (by simp [railplanref41_Compact.l0])
              | succ k2 =>
                have H := HA.out
                clear HA
                simp only [railplanref41_Compact.l0] at H
                by_cases c13 : x32_2 < (y433.length : Int)
                · rw [if_pos c13] at H
                  have c13b0 : decide (x32_2 < (y433.length : Int)) = true := decide_eq_true c13
                  clear c13
                  by_cases c14 : 0 ≤ x32_2
                  · rw [if_pos c14] at H
                    have c14b0 : decide (0 ≤ x32_2) = true := decide_eq_true c14
                    clear c14
                    by_cases c15 : x32_2 < (y433.length : Int)
                    · rw [if_pos c15] at H
                      have c15b0 : decide (x32_2 < (y433.length : Int)) = true := decide_eq_true c15
                      clear c15
                      replace H := Option.bind_eq_some_iff.mp H
                      obtain ⟨⟨t440, t441⟩, A160, H⟩ := H
                      replace H : (if x8_2.size + t440.size ≤ 9223372036854775807 then (railplanref41_Compact.l0 k2 (x8_2 ++ t440) y433 (y433.length : Int) (wrap64 (x32_2 + 1))) else (none)) = some (r1, r2) := H
                      have A16 := Aside0.mk A160
                      clear A160
                      by_cases c17 : x8_2.size + t440.size ≤ 9223372036854775807
                      · rw [if_pos c17] at H
                        have c17b0 := eq_true c17
                        have c17b1 : decide (x8_2.size + t440.size ≤ 9223372036854775807) = true := decide_eq_true c17
                        try have c17b2 : (9223372036854775807 < x8_2.size + t440.size) = False := eq_false (Nat.not_lt.2 c17)
                        have H' := Aside0.mk H
                        clear H
                        have p438 : 0 ≤ (x32_2 : Int) := of_decide_eq_true (by first | (with_reducible assumption) | assumption)
                        have q438 : x32_2 < (y433.length : Int) := of_decide_eq_true (by first | (with_reducible assumption) | assumption)
                        obtain ⟨ad438, e438, hx438_0, hx438_1⟩ := at_T23 (Kd.V_reads' HO_30.out).2.2 x32_2 p438 q438
                        cases e438
                        replace p438 := eq_true p438
                        replace q438 := eq_true q438
                        go_wp2_with (first | ((with_reducible refine gate_dst (N := 10) rfl ?_); refine box_event ?hg (N := 10) ?hd (cs := #[.int .i64 0, .string (⟨#[]⟩ : ByteArray)]) (t := 23) ?hr ?_; (case hd => rfl); (case hg => rfl); (case hr => first | (go_simp; done) | (go_simp; rfl)); intro gb439 hg w18 hbox hb; have n0_ := Aside0.mk (Kd.V_below (Kd.V_elderB (by (with_reducible repeat (first | apply Kd.V_alloc | apply Kd.V_drewN | apply Kd.V_drew)); exact HO_30.out) gb439 (Nat.le_of_eq hg.symm)) hb); have n1_ := Aside0.mk (below_step (by repeat (first | (with_reducible first | exact HB.out | apply below_alloc | apply pw_below_drewN | apply below_drew1) | exact HB.out)) hb); have n2_ := Aside0.mk (hbox); have n3_ := Aside0.mk ((by rw [hg]; exact (below_size (by repeat (first | (with_reducible first | exact HB.out | apply below_alloc | apply pw_below_drewN | apply below_drew1) | exact HB.out))) : w.heap.size ≤ gb439)); have n4_ := Aside0.mk ((by rw [hg]; exact (below_size (by repeat (first | (with_reducible first | exact HB.out | apply below_alloc | apply pw_below_drewN | apply below_drew1) | exact HB.out))) : w.heap.size ≤ gb439)); clear HO_30; clear HB; have HO_30 := n0_; have HB := n1_; have BK439 := n2_; have GW439 := n3_; have GE439 := n4_; clear n0_ n1_ n2_ n3_ n4_; clear hb hbox hg; have hcz19_0 : w18.cell? ⟨gb439, 0, none⟩ = some (.int .i64 0) := (blk_cell BK439.out 0).trans rfl; have hcz19_1 : w18.cell? ⟨gb439, 1, none⟩ = some (.string (⟨#[]⟩ : ByteArray)) := (blk_cell BK439.out 1).trans rfl; have hfz19_0 := blk_frozen BK439.out 0; have hfz19_1 := blk_frozen BK439.out 1) | ((with_reducible refine gate_callee (f := 13) rfl ?_); refine goesL_ (some 38) rfl rfl Try.func13 (by kernel_rfl) rfl #[.agg #[.int .i64 ((rd_T23 y433 x32_2).f0), .string ((rd_T23 y433 x32_2).f1)]] rfl (by (try simp only [List.map_toArray, List.map_cons, List.map_nil]); first | done | rfl | (simp only [List.length_drop, List.length_take]; rfl)) ?_; (with_reducible refine (railplanref41_Encode.calls k2 ((rd_T23 y433 x32_2).f0) ((rd_T23 y433 x32_2).f1) t440 t441 _ A16.out).mono ?_); rintro e w20 ⟨rfl, hb⟩; refine ⟨_, rfl, ?_⟩; have n0_ := Aside0.mk (Kd.V_below (by (with_reducible repeat (first | apply Kd.V_alloc | apply Kd.V_drewN | apply Kd.V_drew)); exact (Kd.V_mono (Kd.V_far (p := ⟨gb439, 1, none⟩) (Kd.V_far (p := ⟨gb439, 0, none⟩) (Kd.V_mono HO_30.out (fun k_ hk => (⟨hk, hk.2⟩ : _ ∧ k_ ≠ gb439))) (fun _ hk => hk.2) (.int .i64 ((rd_T23 y433 x32_2).f0))) (fun _ hk => hk.2) (.string ((rd_T23 y433 x32_2).f1))) (fun _ h_ => h_.1))) hb); have n1_ := Aside0.mk (blk_below (g := gb439) (o := .cells #[.int .i64 ((rd_T23 y433 x32_2).f0), .string ((rd_T23 y433 x32_2).f1)] 23 (0, 0)) (by (with_reducible repeat (first | refine blk_drewN ?_ _ | refine blk_drew ?_ | refine blk_alloc ?_ _)); refine blk_put (cs := #[.int .i64 ((rd_T23 y433 x32_2).f0), .string (⟨#[]⟩ : ByteArray)]) ?_ 1 _ rfl; (with_reducible repeat (first | refine blk_drewN ?_ _ | refine blk_drew ?_ | refine blk_alloc ?_ _)); refine blk_put (cs := #[.int .i64 0, .string (⟨#[]⟩ : ByteArray)]) ?_ 0 _ rfl; (with_reducible repeat (first | refine blk_drewN ?_ _ | refine blk_drew ?_ | refine blk_alloc ?_ _)); exact BK439.out) hb); have n2_ := Aside0.mk (below_step (by repeat (first | (with_reducible first | exact HB.out | apply below_alloc | apply pw_below_drewN | apply below_drew1 | refine below_set ?_ GE439.out) | exact HB.out)) hb); clear HO_30; clear BK439; clear HB; have HO_30 := n0_; have BK439 := n1_; have HB := n2_; clear n0_ n1_ n2_; (try clear hb); (try clear hb2); (try clear hk); (try clear hi)))
                        go_roundg k2
                        case measure => have := HJ2.out; have := HK2.out; omega
                        case rel => exact ⟨(x8_2 ++ t440), (wrap64 (x32_2 + 1)), (by first | rfl | (simp; done) | (simp [*]; done)), (by first | rfl | (simp; done) | (simp [*]; done)), H', ⟨by have := HJ2.out; have := HK2.out; omega⟩, ⟨by (with_reducible repeat (first | apply Kd.V_alloc | apply Kd.V_drewN | apply Kd.V_drew)); exact Kd.V_mono HO_30.out (fun _ hk => trivial)⟩, ⟨by repeat (first | (with_reducible first | exact HB.out | apply below_alloc | apply pw_below_drewN | apply below_drew1 | refine below_set ?_ GE439.out) | exact HB.out)⟩⟩
                      · rw [if_neg c17] at H
                        exact absurd H (by simp)
                    · rw [if_neg c15] at H
                      exact absurd H (by simp)
                  · rw [if_neg c14] at H
                    exact absurd H (by simp)
                · rw [if_neg c13] at H
                  have c13b0 : decide (x32_2 < (y433.length : Int)) = false := decide_eq_false c13
                  clear c13
                  simp only [Option.some.injEq, Prod.mk.injEq] at H
                  obtain ⟨rfl, rfl⟩ := H
                  go_wp2
                  go_ret2
                  exact ⟨by first | rfl | (simp [errW_none, errW_some] <;> rfl) | (simp only [← hji7]; first | rfl | (simp [errW_none, errW_some] <;> rfl)) | (simp [*, errW_none, errW_some] <;> rfl), by repeat (first | (with_reducible first | exact HB.out | apply below_alloc | apply pw_below_drewN | apply below_drew1) | exact HB.out)⟩
          · rw [if_neg c9] at H
            exact absurd H (by simp)
        · rw [if_neg c8] at H
          exact absurd H (by simp)

/-! ### railplanlaw41_StoreRead: function 11 -/
mutual
def railplanlaw41_StoreRead.j0 : Nat → ByteArray → Int → Int → Int → ByteArray → Option (Bool)
  | 0, _, _, _, _, _ => none
  | k + 1, x0, x2, x5, x6, x15 => (railplankeep_Pick.f x2 7).bind fun t448 => (if t448 = 0 then (railplanlaw41_StoreRead.j1 k x5 x6 x0) else (railplanlaw41_StoreRead.j1 k x5 x6 x15))
def railplanlaw41_StoreRead.j1 : Nat → Int → Int → ByteArray → Option (Bool)
  | 0, _, _, _ => none
  | k + 1, x5, x6, x15 => (store_Latest.f k x15).bind fun bt449 => ((railplanref41_Latest.f k x15).bind fun bt453 => ((railplankeep_Pick.f x5 14).bind fun t457 => ((store_Get.f k x15 t457).bind fun bt458 => ((railplankeep_Pick.f x5 14).bind fun t462 => ((railplanref41_Get.f k x15 t462).bind fun bt463 => ((railplankeep_Pick.f x6 9).bind fun t467 => ((store_Compact.f k x15 (wrap64 (t467 - 1))).bind fun bt468 => ((railplankeep_Pick.f x6 9).bind fun t470 => ((railplanref41_Compact.f k x15 (wrap64 (t470 - 1))).bind fun bt471 => ((store_Compact.f k x15 65).bind fun bt473 => ((railplanlaw41_awake.f k).bind fun t475 => (if t475 = true then (if (bt449.1 == bt453.1 && (bt449.2.1.toList == bt453.2.1.toList)) = true then (if bt449.2.2 = bt453.2.2 then (if (bt458.1 == bt463.1 && (bt458.2.1.toList == bt463.2.1.toList)) = true then (if bt458.2.2 = bt463.2.2 then (if bt468.1.toList = bt471.1.toList then (if bt468.2 = bt471.2 then (some (bt473.2 == 4)) else (some false)) else (some false)) else (some false)) else (some false)) else (some false)) else (some false)) else (some false)))))))))))))
end
def railplanlaw41_StoreRead.f (k : Nat) (a0 : ByteArray) (l1 : List Int) (a2 : Int) (a3 : Int) (a4 : Int) (a5 : Int) (a6 : Int) : Option (Bool) := (railplanlaw41_versions.f k l1).bind fun t442 => ((railplanlaw41_file.f k t442).bind fun t445 => ((railplankeep_Pick.f a2 3).bind fun t446 => (if t446 > 0 then ((railplanlaw41_damaged.f t445 (wrap64 (Int.tdiv a2 3)) a3 a4).bind fun t447 => (railplanlaw41_StoreRead.j0 k a0 a2 a5 a6 t447)) else (railplanlaw41_StoreRead.j0 k a0 a2 a5 a6 t445))))
theorem railplanlaw41_StoreRead.mono_l : ∀ k, (∀ y0 y1 y2 y3 y4, LeO (railplanlaw41_StoreRead.j0 k y0 y1 y2 y3 y4) (railplanlaw41_StoreRead.j0 (k + 1) y0 y1 y2 y3 y4)) ∧ (∀ y0 y1 y2, LeO (railplanlaw41_StoreRead.j1 k y0 y1 y2) (railplanlaw41_StoreRead.j1 (k + 1) y0 y1 y2))
  | 0 => ⟨fun _ _ _ _ _ r h => by simp [railplanlaw41_StoreRead.j0] at h, fun _ _ _ r h => by simp [railplanlaw41_StoreRead.j1] at h⟩
  | k + 1 => by
    obtain ⟨ih0, ih1⟩ := railplanlaw41_StoreRead.mono_l k
    refine ⟨?_, ?_⟩
    · intro y0 y1 y2 y3 y4
      unfold railplanlaw41_StoreRead.j0
      repeat' first
      | (with_reducible exact ih0 _ _ _ _ _)
      | (with_reducible exact ih1 _ _ _)
      | (with_reducible exact railplanlaw41_awake.mono _)
      | (with_reducible exact railplanlaw41_file.mono _ _)
      | (with_reducible exact railplanlaw41_versions.mono _ _)
      | (with_reducible exact railplanref41_Compact.mono _ _ _)
      | (with_reducible exact railplanref41_Get.mono _ _ _)
      | (with_reducible exact railplanref41_Latest.mono _ _)
      | (with_reducible exact store_Compact.mono _ _ _)
      | (with_reducible exact store_Get.mono _ _ _)
      | (with_reducible exact store_Latest.mono _ _)
      | (with_reducible exact LeO.refl _)
      | (with_reducible exact LeO.none _)
      | (with_reducible refine LeO.ite ?_ ?_)
      | (with_reducible refine LeO.bind ?_ (fun _ => ?_))
      | exact ih0 _ _ _ _ _
      | exact ih1 _ _ _
      | exact railplanlaw41_awake.mono _
      | exact railplanlaw41_file.mono _ _
      | exact railplanlaw41_versions.mono _ _
      | exact railplanref41_Compact.mono _ _ _
      | exact railplanref41_Get.mono _ _ _
      | exact railplanref41_Latest.mono _ _
      | exact store_Compact.mono _ _ _
      | exact store_Get.mono _ _ _
      | exact store_Latest.mono _ _
      | exact LeO.none _
      | refine LeO.ite ?_ ?_
      | refine LeO.bind ?_ (fun _ => ?_)
    · intro y0 y1 y2
      unfold railplanlaw41_StoreRead.j1
      repeat' first
      | (with_reducible exact ih0 _ _ _ _ _)
      | (with_reducible exact ih1 _ _ _)
      | (with_reducible exact railplanlaw41_awake.mono _)
      | (with_reducible exact railplanlaw41_file.mono _ _)
      | (with_reducible exact railplanlaw41_versions.mono _ _)
      | (with_reducible exact railplanref41_Compact.mono _ _ _)
      | (with_reducible exact railplanref41_Get.mono _ _ _)
      | (with_reducible exact railplanref41_Latest.mono _ _)
      | (with_reducible exact store_Compact.mono _ _ _)
      | (with_reducible exact store_Get.mono _ _ _)
      | (with_reducible exact store_Latest.mono _ _)
      | (with_reducible exact LeO.refl _)
      | (with_reducible exact LeO.none _)
      | (with_reducible refine LeO.ite ?_ ?_)
      | (with_reducible refine LeO.bind ?_ (fun _ => ?_))
      | exact ih0 _ _ _ _ _
      | exact ih1 _ _ _
      | exact railplanlaw41_awake.mono _
      | exact railplanlaw41_file.mono _ _
      | exact railplanlaw41_versions.mono _ _
      | exact railplanref41_Compact.mono _ _ _
      | exact railplanref41_Get.mono _ _ _
      | exact railplanref41_Latest.mono _ _
      | exact store_Compact.mono _ _ _
      | exact store_Get.mono _ _ _
      | exact store_Latest.mono _ _
      | exact LeO.none _
      | refine LeO.ite ?_ ?_
      | refine LeO.bind ?_ (fun _ => ?_)
theorem railplanlaw41_StoreRead.mono : ∀ a0 a1 a2 a3 a4 a5 a6 k, LeO (railplanlaw41_StoreRead.f k a0 a1 a2 a3 a4 a5 a6) (railplanlaw41_StoreRead.f (k + 1) a0 a1 a2 a3 a4 a5 a6) := by
  intro a0 a1 a2 a3 a4 a5 a6 k
  obtain ⟨ih0, ih1⟩ := railplanlaw41_StoreRead.mono_l k
  unfold railplanlaw41_StoreRead.f
  repeat' first
      | (with_reducible exact ih0 _ _ _ _ _)
      | (with_reducible exact ih1 _ _ _)
      | (with_reducible exact railplanlaw41_awake.mono _)
      | (with_reducible exact railplanlaw41_file.mono _ _)
      | (with_reducible exact railplanlaw41_versions.mono _ _)
      | (with_reducible exact railplanref41_Compact.mono _ _ _)
      | (with_reducible exact railplanref41_Get.mono _ _ _)
      | (with_reducible exact railplanref41_Latest.mono _ _)
      | (with_reducible exact store_Compact.mono _ _ _)
      | (with_reducible exact store_Get.mono _ _ _)
      | (with_reducible exact store_Latest.mono _ _)
      | (with_reducible exact LeO.refl _)
      | (with_reducible exact LeO.none _)
      | (with_reducible refine LeO.ite ?_ ?_)
      | (with_reducible refine LeO.bind ?_ (fun _ => ?_))
      | exact ih0 _ _ _ _ _
      | exact ih1 _ _ _
      | exact railplanlaw41_awake.mono _
      | exact railplanlaw41_file.mono _ _
      | exact railplanlaw41_versions.mono _ _
      | exact railplanref41_Compact.mono _ _ _
      | exact railplanref41_Get.mono _ _ _
      | exact railplanref41_Latest.mono _ _
      | exact store_Compact.mono _ _ _
      | exact store_Get.mono _ _ _
      | exact store_Latest.mono _ _
      | exact LeO.none _
      | refine LeO.ite ?_ ?_
      | refine LeO.bind ?_ (fun _ => ?_)
set_option maxHeartbeats 8000000 in
set_option maxRecDepth 100000 in
theorem railplanlaw41_StoreRead.calls (k : Nat) (a0 : ByteArray) (A1 : Option Addr) (c1 : Nat) (l1 : List Int) (a2 : Int) (a3 : Int) (a4 : Int) (a5 : Int) (a6 : Int) (r : Bool) (w : World) (hr1 : Kd.C (Kd.int .i64) w A1 l1.length l1) (hc1 : l1.length ≤ c1) (hr_ : Aside0 (r = true)) (h : railplanlaw41_StoreRead.f k a0 l1 a2 a3 a4 a5 a6 = some r) :
    Calls Try.prog 11 #[.string a0, .slice A1 l1.length c1, .int .i64 a2, .int .i64 a3, .int .i64 a4, .int .i64 a5, .int .i64 a6] w fun e w' => e = .returned (.bool r) ∧ Below w.heap.size w w' := by
  have hu23 := Try.underlying23
  have HR1 := Aside0.mk hr1
  have HC1 := Aside0.mk hc1
  clear hr1 hc1
  have HB := Aside0.mk (Below.refl w.heap.size w)
  have H : ((railplanlaw41_versions.f k l1).bind fun t442 => ((railplanlaw41_file.f k t442).bind fun t445 => ((railplankeep_Pick.f a2 3).bind fun t446 => (if t446 > 0 then ((railplanlaw41_damaged.f t445 (wrap64 (Int.tdiv a2 3)) a3 a4).bind fun t447 => (railplanlaw41_StoreRead.j0 k a0 a2 a5 a6 t447)) else (railplanlaw41_StoreRead.j0 k a0 a2 a5 a6 t445))))) = some r := h
  clear h
  replace H := Option.bind_eq_some_iff.mp H
  obtain ⟨t442, A80, H⟩ := H
  replace H : ((railplanlaw41_file.f k t442).bind fun t445 => ((railplankeep_Pick.f a2 3).bind fun t446 => (if t446 > 0 then ((railplanlaw41_damaged.f t445 (wrap64 (Int.tdiv a2 3)) a3 a4).bind fun t447 => (railplanlaw41_StoreRead.j0 k a0 a2 a5 a6 t447)) else (railplanlaw41_StoreRead.j0 k a0 a2 a5 a6 t445)))) = some r := H
  have A8 := Aside0.mk A80
  clear A80
  replace H := Option.bind_eq_some_iff.mp H
  obtain ⟨t445, A90, H⟩ := H
  replace H : ((railplankeep_Pick.f a2 3).bind fun t446 => (if t446 > 0 then ((railplanlaw41_damaged.f t445 (wrap64 (Int.tdiv a2 3)) a3 a4).bind fun t447 => (railplanlaw41_StoreRead.j0 k a0 a2 a5 a6 t447)) else (railplanlaw41_StoreRead.j0 k a0 a2 a5 a6 t445))) = some r := H
  have A9 := Aside0.mk A90
  clear A90
  replace H := Option.bind_eq_some_iff.mp H
  obtain ⟨t446, A100, H⟩ := H
  replace H : (if t446 > 0 then ((railplanlaw41_damaged.f t445 (wrap64 (Int.tdiv a2 3)) a3 a4).bind fun t447 => (railplanlaw41_StoreRead.j0 k a0 a2 a5 a6 t447)) else (railplanlaw41_StoreRead.j0 k a0 a2 a5 a6 t445)) = some r := H
  have A10 := Aside0.mk A100
  clear A100
  have HC11 := Aside0.mk H
  clear H
  go_enter Try.func11, Try.ntmps11
  go_upto_if 35 with (first | ((with_reducible refine gate_callee (f := 17) rfl ?_); refine goesL_ (some 31) rfl rfl Try.func17 (by kernel_rfl) rfl #[.slice A1 l1.length c1] rfl (by (try simp only [List.map_toArray, List.map_cons, List.map_nil]); first | done | rfl | (simp only [List.length_drop, List.length_take]; rfl)) ?_; (with_reducible refine (railplanlaw41_versions.calls k _ _ l1 t442 _ ?side1 ?side2 A8.out).mono ?_); (case side1 => repeat (first | exact HR1.out | (with_reducible refine Kd.C_alloc ?_ _) | (with_reducible refine Kd.C_drewN ?_ _) | (with_reducible refine Kd.C_drew ?_))); (case side2 => exact HC1.out); rintro e w12 ⟨v443, rfl, ho0, hb⟩; refine ⟨_, rfl, ?_⟩; have n0_ := Aside0.mk (Kd.R_lower ho0 (below_size (by repeat (first | (with_reducible first | exact HB.out | apply below_alloc | apply pw_below_drewN | apply below_drew1) | exact HB.out)))); have n1_ := Aside0.mk (below_step (by repeat (first | (with_reducible first | exact HB.out | apply below_alloc | apply pw_below_drewN | apply below_drew1) | exact HB.out)) hb); clear HB; have HO444 := n0_; have HB := n1_; clear n0_ n1_; (try clear hb); (try clear hb2); (try clear hk); (try clear hi); (try clear ho0); obtain ⟨Ao13, co13, eo13⟩ := Kd.R_slice HO444.out; subst eo13) | ((with_reducible refine gate_callee (f := 16) rfl ?_); refine goesL_ (some 32) rfl rfl Try.func16 (by kernel_rfl) rfl #[.slice Ao13 t442.length co13] rfl (by (try simp only [List.map_toArray, List.map_cons, List.map_nil]); first | done | rfl | (simp only [List.length_drop, List.length_take]; rfl)) ?_; (with_reducible refine (railplanlaw41_file.calls k _ _ t442 t445 _ ?side1 ?side2 A9.out).mono ?_); (case side1 => repeat (first | exact (Kd.R_reads' HO444.out).2.2 | (with_reducible refine Kd.C_alloc ?_ _) | (with_reducible refine Kd.C_drewN ?_ _) | (with_reducible refine Kd.C_drew ?_))); (case side2 => exact (Kd.R_reads' HO444.out).2.1); rintro e w14 ⟨rfl, hb⟩; refine ⟨_, rfl, ?_⟩; have n0_ := Aside0.mk (Kd.R_below (by (with_reducible repeat (first | apply Kd.R_alloc | apply Kd.R_drewN | apply Kd.R_drew)); exact HO444.out) hb); have n1_ := Aside0.mk (below_step (by repeat (first | (with_reducible first | exact HB.out | apply below_alloc | apply pw_below_drewN | apply below_drew1) | exact HB.out)) hb); clear HO444; clear HB; have HO444 := n0_; have HB := n1_; clear n0_ n1_; (try clear hb); (try clear hb2); (try clear hk); (try clear hi)) | ((with_reducible refine gate_callee (f := 14) rfl ?_); refine goesL_ (some 34) rfl rfl Try.func14 (by kernel_rfl) rfl #[.int .i64 a2, .int .i64 3] rfl (by (try simp only [List.map_toArray, List.map_cons, List.map_nil]); first | done | rfl | (simp only [List.length_drop, List.length_take]; rfl)) ?_; (with_reducible refine (railplankeep_Pick.calls a2 3 t446 _ A10.out).mono ?_); rintro e w' ⟨rfl, ⟨nd, rfl⟩⟩; refine ⟨_, rfl, ?_⟩))
  (try simp only [Act.put, List.setIfInBounds_toArray, List.set_cons_zero, List.set_cons_succ])
  go_cut [15] (fun v15 wc => ∃ (kq : Nat) (x15_10 : ByteArray), v15 = .string x15_10 ∧ Aside0 (railplanlaw41_StoreRead.j0 kq a0 a2 a5 a6 x15_10 = some r) ∧ Aside0 (kq ≤ k) ∧ Aside0 (Below w.heap.size w wc))
  case first =>
    have H := HC11.out
    clear HC11
    by_cases c15 : t446 > 0
    · rw [if_pos c15] at H
      have c15b0 : decide (0 < t446) = true := decide_eq_true c15
      clear c15
      (first | rw [c15b0] | (simp only [i64_w, i32_w]; rw [c15b0]) | rw [c15b1] | skip)
      replace H := Option.bind_eq_some_iff.mp H
      obtain ⟨t447, A160, H⟩ := H
      replace H : (railplanlaw41_StoreRead.j0 k a0 a2 a5 a6 t447) = some r := H
      have A16 := Aside0.mk A160
      clear A160
      have H' := Aside0.mk H
      clear H
      go_wp2_with (first | ((with_reducible refine gate_callee (f := 18) rfl ?_); refine goesL_ (some 41) rfl rfl Try.func18 (by kernel_rfl) rfl #[.string t445, .int .i64 (wrap64 (Int.tdiv a2 3)), .int .i64 a3, .int .i64 a4] rfl (by (try simp only [List.map_toArray, List.map_cons, List.map_nil]); first | done | rfl | (simp only [List.length_drop, List.length_take]; rfl)) ?_; (with_reducible refine (railplanlaw41_damaged.calls t445 (wrap64 (Int.tdiv a2 3)) a3 a4 t447 _ A16.out).mono ?_); rintro e w17 ⟨rfl, hb⟩; refine ⟨_, rfl, ?_⟩; have n0_ := Aside0.mk (Kd.R_below (by (with_reducible repeat (first | apply Kd.R_alloc | apply Kd.R_drewN | apply Kd.R_drew)); exact HO444.out) hb); have n1_ := Aside0.mk (below_step (by repeat (first | (with_reducible first | exact HB.out | apply below_alloc | apply pw_below_drewN | apply below_drew1) | exact HB.out)) hb); clear HO444; clear HB; have HO444 := n0_; have HB := n1_; clear n0_ n1_; (try clear hb); (try clear hb2); (try clear hk); (try clear hi)))
      go_meet
      case rel => exact ⟨_, (t447), (by first | rfl | (simp; done) | (simp [*]; done)), H', ⟨by first | omega | exact Nat.le_refl _⟩, ⟨by repeat (first | (with_reducible first | exact HB.out | apply below_alloc | apply pw_below_drewN | apply below_drew1) | exact HB.out)⟩⟩
    · rw [if_neg c15] at H
      have c15b0 : decide (0 < t446) = false := decide_eq_false c15
      clear c15
      (first | rw [c15b0] | (simp only [i64_w, i32_w]; rw [c15b0]) | rw [c15b1] | skip)
      have H' := Aside0.mk H
      clear H
      go_wp2
      go_meet
      case rel => exact ⟨_, (t445), (by first | rfl | (simp; done) | (simp [*]; done)), H', ⟨by first | omega | exact Nat.le_refl _⟩, ⟨by repeat (first | (with_reducible first | exact HB.out | apply below_alloc | apply pw_below_drewN | apply below_drew1) | exact HB.out)⟩⟩
  case rest =>
    clear HC11
    try clear c1
    try clear p2
    try clear p6
    try clear c11
    try clear c14
    try clear c15
    try clear c15b0
    try clear c15b1
    try clear c16
    try clear c17
    obtain ⟨kq, x15_10, rfl, HA, HJ10, HB⟩ := hcut
    cases kq with
    | zero => exact absurd HA.out (by simp [railplanlaw41_StoreRead.j0])
    | succ kj10 =>
      have H := HA.out
      clear HA
      simp only [railplanlaw41_StoreRead.j0] at H
      replace H := Option.bind_eq_some_iff.mp H
      obtain ⟨t448, A180, H⟩ := H
      replace H : (if t448 = 0 then (railplanlaw41_StoreRead.j1 kj10 a5 a6 a0) else (railplanlaw41_StoreRead.j1 kj10 a5 a6 x15_10)) = some r := H
      have A18 := Aside0.mk A180
      clear A180
      have HC19 := Aside0.mk H
      clear H
      go_upto_if 44 with (first | ((with_reducible refine gate_callee (f := 14) rfl ?_); refine goesL_ (some 43) rfl rfl Try.func14 (by kernel_rfl) rfl #[.int .i64 a2, .int .i64 7] rfl (by (try simp only [List.map_toArray, List.map_cons, List.map_nil]); first | done | rfl | (simp only [List.length_drop, List.length_take]; rfl)) ?_; (with_reducible refine (railplankeep_Pick.calls a2 7 t448 _ A18.out).mono ?_); rintro e w' ⟨rfl, ⟨nd, rfl⟩⟩; refine ⟨_, rfl, ?_⟩))
      (try simp only [Act.put, List.setIfInBounds_toArray, List.set_cons_zero, List.set_cons_succ])
      go_cut [15] (fun v15 wc => ∃ (kq : Nat) (x15_18 : ByteArray), v15 = .string x15_18 ∧ Aside0 (railplanlaw41_StoreRead.j1 kq a5 a6 x15_18 = some r) ∧ Aside0 (kq ≤ kj10) ∧ Aside0 (Below w.heap.size w wc))
      case first =>
        have H := HC19.out
        clear HC19
        by_cases c20 : t448 = 0
        · rw [if_pos c20] at H
          have c20b0 : (t448 == 0) = true := beq_iff_eq.mpr c20
          have c20b1 : (t448 != 0) = false := bne_eq_false_iff_eq.mpr c20
          clear c20
          (first | rw [c20b0] | (simp only [i64_w, i32_w]; rw [c20b0]) | rw [c20b1] | skip)
          have H' := Aside0.mk H
          clear H
          go_wp2
          go_meet
          case rel => exact ⟨_, (a0), (by first | rfl | (simp; done) | (simp [*]; done)), H', ⟨by have := HJ10.out; first | omega | exact Nat.le_refl _⟩, ⟨by repeat (first | (with_reducible first | exact HB.out | apply below_alloc | apply pw_below_drewN | apply below_drew1) | exact HB.out)⟩⟩
        · rw [if_neg c20] at H
          have c20b0 : (t448 == 0) = false := beq_eq_false_iff_ne.mpr c20
          have c20b1 : (t448 != 0) = true := bne_iff_ne.mpr c20
          (first | rw [c20b0] | (simp only [i64_w, i32_w]; rw [c20b0]) | rw [c20b1] | skip)
          have H' := Aside0.mk H
          clear H
          go_wp2
          go_meet
          case rel => exact ⟨_, (x15_10), (by first | rfl | (simp; done) | (simp [*]; done)), H', ⟨by have := HJ10.out; first | omega | exact Nat.le_refl _⟩, ⟨by repeat (first | (with_reducible first | exact HB.out | apply below_alloc | apply pw_below_drewN | apply below_drew1) | exact HB.out)⟩⟩
      case rest =>
        clear HC19
        try clear c1
        try clear c2
        try clear p2
        try clear p6
        try clear c11
        try clear c14
        try clear c15
        try clear c15b0
        try clear c15b1
        try clear c16
        try clear c17
        try clear c18
        try clear c20
        try clear c20b0
        try clear c20b1
        try clear p2
        try clear p6
        obtain ⟨kq, x15_18, rfl, HA, HJ18, HB⟩ := hcut
        cases kq with
        | zero => exact absurd HA.out (by simp [railplanlaw41_StoreRead.j1])
        | succ kj18 =>
          have H := HA.out
          clear HA
          simp only [railplanlaw41_StoreRead.j1] at H
          replace H := Option.bind_eq_some_iff.mp H
          obtain ⟨⟨t449, t450, t451⟩, A210, H⟩ := H
          replace H : ((railplanref41_Latest.f kj18 x15_18).bind fun bt453 => ((railplankeep_Pick.f a5 14).bind fun t457 => ((store_Get.f kj18 x15_18 t457).bind fun bt458 => ((railplankeep_Pick.f a5 14).bind fun t462 => ((railplanref41_Get.f kj18 x15_18 t462).bind fun bt463 => ((railplankeep_Pick.f a6 9).bind fun t467 => ((store_Compact.f kj18 x15_18 (wrap64 (t467 - 1))).bind fun bt468 => ((railplankeep_Pick.f a6 9).bind fun t470 => ((railplanref41_Compact.f kj18 x15_18 (wrap64 (t470 - 1))).bind fun bt471 => ((store_Compact.f kj18 x15_18 65).bind fun bt473 => ((railplanlaw41_awake.f kj18).bind fun t475 => (if t475 = true then (if (t449 == bt453.1 && (t450.toList == bt453.2.1.toList)) = true then (if t451 = bt453.2.2 then (if (bt458.1 == bt463.1 && (bt458.2.1.toList == bt463.2.1.toList)) = true then (if bt458.2.2 = bt463.2.2 then (if bt468.1.toList = bt471.1.toList then (if bt468.2 = bt471.2 then (some (bt473.2 == 4)) else (some false)) else (some false)) else (some false)) else (some false)) else (some false)) else (some false)) else (some false))))))))))))) = some r := H
          have A21 := Aside0.mk A210
          clear A210
          replace H := Option.bind_eq_some_iff.mp H
          obtain ⟨⟨t453, t454, t455⟩, A220, H⟩ := H
          replace H : ((railplankeep_Pick.f a5 14).bind fun t457 => ((store_Get.f kj18 x15_18 t457).bind fun bt458 => ((railplankeep_Pick.f a5 14).bind fun t462 => ((railplanref41_Get.f kj18 x15_18 t462).bind fun bt463 => ((railplankeep_Pick.f a6 9).bind fun t467 => ((store_Compact.f kj18 x15_18 (wrap64 (t467 - 1))).bind fun bt468 => ((railplankeep_Pick.f a6 9).bind fun t470 => ((railplanref41_Compact.f kj18 x15_18 (wrap64 (t470 - 1))).bind fun bt471 => ((store_Compact.f kj18 x15_18 65).bind fun bt473 => ((railplanlaw41_awake.f kj18).bind fun t475 => (if t475 = true then (if (t449 == t453 && (t450.toList == t454.toList)) = true then (if t451 = t455 then (if (bt458.1 == bt463.1 && (bt458.2.1.toList == bt463.2.1.toList)) = true then (if bt458.2.2 = bt463.2.2 then (if bt468.1.toList = bt471.1.toList then (if bt468.2 = bt471.2 then (some (bt473.2 == 4)) else (some false)) else (some false)) else (some false)) else (some false)) else (some false)) else (some false)) else (some false)))))))))))) = some r := H
          have A22 := Aside0.mk A220
          clear A220
          replace H := Option.bind_eq_some_iff.mp H
          obtain ⟨t457, A230, H⟩ := H
          replace H : ((store_Get.f kj18 x15_18 t457).bind fun bt458 => ((railplankeep_Pick.f a5 14).bind fun t462 => ((railplanref41_Get.f kj18 x15_18 t462).bind fun bt463 => ((railplankeep_Pick.f a6 9).bind fun t467 => ((store_Compact.f kj18 x15_18 (wrap64 (t467 - 1))).bind fun bt468 => ((railplankeep_Pick.f a6 9).bind fun t470 => ((railplanref41_Compact.f kj18 x15_18 (wrap64 (t470 - 1))).bind fun bt471 => ((store_Compact.f kj18 x15_18 65).bind fun bt473 => ((railplanlaw41_awake.f kj18).bind fun t475 => (if t475 = true then (if (t449 == t453 && (t450.toList == t454.toList)) = true then (if t451 = t455 then (if (bt458.1 == bt463.1 && (bt458.2.1.toList == bt463.2.1.toList)) = true then (if bt458.2.2 = bt463.2.2 then (if bt468.1.toList = bt471.1.toList then (if bt468.2 = bt471.2 then (some (bt473.2 == 4)) else (some false)) else (some false)) else (some false)) else (some false)) else (some false)) else (some false)) else (some false))))))))))) = some r := H
          have A23 := Aside0.mk A230
          clear A230
          replace H := Option.bind_eq_some_iff.mp H
          obtain ⟨⟨t458, t459, t460⟩, A240, H⟩ := H
          replace H : ((railplankeep_Pick.f a5 14).bind fun t462 => ((railplanref41_Get.f kj18 x15_18 t462).bind fun bt463 => ((railplankeep_Pick.f a6 9).bind fun t467 => ((store_Compact.f kj18 x15_18 (wrap64 (t467 - 1))).bind fun bt468 => ((railplankeep_Pick.f a6 9).bind fun t470 => ((railplanref41_Compact.f kj18 x15_18 (wrap64 (t470 - 1))).bind fun bt471 => ((store_Compact.f kj18 x15_18 65).bind fun bt473 => ((railplanlaw41_awake.f kj18).bind fun t475 => (if t475 = true then (if (t449 == t453 && (t450.toList == t454.toList)) = true then (if t451 = t455 then (if (t458 == bt463.1 && (t459.toList == bt463.2.1.toList)) = true then (if t460 = bt463.2.2 then (if bt468.1.toList = bt471.1.toList then (if bt468.2 = bt471.2 then (some (bt473.2 == 4)) else (some false)) else (some false)) else (some false)) else (some false)) else (some false)) else (some false)) else (some false)))))))))) = some r := H
          have A24 := Aside0.mk A240
          clear A240
          replace H := Option.bind_eq_some_iff.mp H
          obtain ⟨t462, A250, H⟩ := H
          replace H : ((railplanref41_Get.f kj18 x15_18 t462).bind fun bt463 => ((railplankeep_Pick.f a6 9).bind fun t467 => ((store_Compact.f kj18 x15_18 (wrap64 (t467 - 1))).bind fun bt468 => ((railplankeep_Pick.f a6 9).bind fun t470 => ((railplanref41_Compact.f kj18 x15_18 (wrap64 (t470 - 1))).bind fun bt471 => ((store_Compact.f kj18 x15_18 65).bind fun bt473 => ((railplanlaw41_awake.f kj18).bind fun t475 => (if t475 = true then (if (t449 == t453 && (t450.toList == t454.toList)) = true then (if t451 = t455 then (if (t458 == bt463.1 && (t459.toList == bt463.2.1.toList)) = true then (if t460 = bt463.2.2 then (if bt468.1.toList = bt471.1.toList then (if bt468.2 = bt471.2 then (some (bt473.2 == 4)) else (some false)) else (some false)) else (some false)) else (some false)) else (some false)) else (some false)) else (some false))))))))) = some r := H
          have A25 := Aside0.mk A250
          clear A250
          replace H := Option.bind_eq_some_iff.mp H
          obtain ⟨⟨t463, t464, t465⟩, A260, H⟩ := H
          replace H : ((railplankeep_Pick.f a6 9).bind fun t467 => ((store_Compact.f kj18 x15_18 (wrap64 (t467 - 1))).bind fun bt468 => ((railplankeep_Pick.f a6 9).bind fun t470 => ((railplanref41_Compact.f kj18 x15_18 (wrap64 (t470 - 1))).bind fun bt471 => ((store_Compact.f kj18 x15_18 65).bind fun bt473 => ((railplanlaw41_awake.f kj18).bind fun t475 => (if t475 = true then (if (t449 == t453 && (t450.toList == t454.toList)) = true then (if t451 = t455 then (if (t458 == t463 && (t459.toList == t464.toList)) = true then (if t460 = t465 then (if bt468.1.toList = bt471.1.toList then (if bt468.2 = bt471.2 then (some (bt473.2 == 4)) else (some false)) else (some false)) else (some false)) else (some false)) else (some false)) else (some false)) else (some false)))))))) = some r := H
          have A26 := Aside0.mk A260
          clear A260
          replace H := Option.bind_eq_some_iff.mp H
          obtain ⟨t467, A270, H⟩ := H
          replace H : ((store_Compact.f kj18 x15_18 (wrap64 (t467 - 1))).bind fun bt468 => ((railplankeep_Pick.f a6 9).bind fun t470 => ((railplanref41_Compact.f kj18 x15_18 (wrap64 (t470 - 1))).bind fun bt471 => ((store_Compact.f kj18 x15_18 65).bind fun bt473 => ((railplanlaw41_awake.f kj18).bind fun t475 => (if t475 = true then (if (t449 == t453 && (t450.toList == t454.toList)) = true then (if t451 = t455 then (if (t458 == t463 && (t459.toList == t464.toList)) = true then (if t460 = t465 then (if bt468.1.toList = bt471.1.toList then (if bt468.2 = bt471.2 then (some (bt473.2 == 4)) else (some false)) else (some false)) else (some false)) else (some false)) else (some false)) else (some false)) else (some false))))))) = some r := H
          have A27 := Aside0.mk A270
          clear A270
          replace H := Option.bind_eq_some_iff.mp H
          obtain ⟨⟨t468, t469⟩, A280, H⟩ := H
          replace H : ((railplankeep_Pick.f a6 9).bind fun t470 => ((railplanref41_Compact.f kj18 x15_18 (wrap64 (t470 - 1))).bind fun bt471 => ((store_Compact.f kj18 x15_18 65).bind fun bt473 => ((railplanlaw41_awake.f kj18).bind fun t475 => (if t475 = true then (if (t449 == t453 && (t450.toList == t454.toList)) = true then (if t451 = t455 then (if (t458 == t463 && (t459.toList == t464.toList)) = true then (if t460 = t465 then (if t468.toList = bt471.1.toList then (if t469 = bt471.2 then (some (bt473.2 == 4)) else (some false)) else (some false)) else (some false)) else (some false)) else (some false)) else (some false)) else (some false)))))) = some r := H
          have A28 := Aside0.mk A280
          clear A280
          replace H := Option.bind_eq_some_iff.mp H
          obtain ⟨t470, A290, H⟩ := H
          replace H : ((railplanref41_Compact.f kj18 x15_18 (wrap64 (t470 - 1))).bind fun bt471 => ((store_Compact.f kj18 x15_18 65).bind fun bt473 => ((railplanlaw41_awake.f kj18).bind fun t475 => (if t475 = true then (if (t449 == t453 && (t450.toList == t454.toList)) = true then (if t451 = t455 then (if (t458 == t463 && (t459.toList == t464.toList)) = true then (if t460 = t465 then (if t468.toList = bt471.1.toList then (if t469 = bt471.2 then (some (bt473.2 == 4)) else (some false)) else (some false)) else (some false)) else (some false)) else (some false)) else (some false)) else (some false))))) = some r := H
          have A29 := Aside0.mk A290
          clear A290
          replace H := Option.bind_eq_some_iff.mp H
          obtain ⟨⟨t471, t472⟩, A300, H⟩ := H
          replace H : ((store_Compact.f kj18 x15_18 65).bind fun bt473 => ((railplanlaw41_awake.f kj18).bind fun t475 => (if t475 = true then (if (t449 == t453 && (t450.toList == t454.toList)) = true then (if t451 = t455 then (if (t458 == t463 && (t459.toList == t464.toList)) = true then (if t460 = t465 then (if t468.toList = t471.toList then (if t469 = t472 then (some (bt473.2 == 4)) else (some false)) else (some false)) else (some false)) else (some false)) else (some false)) else (some false)) else (some false)))) = some r := H
          have A30 := Aside0.mk A300
          clear A300
          replace H := Option.bind_eq_some_iff.mp H
          obtain ⟨⟨t473, t474⟩, A310, H⟩ := H
          replace H : ((railplanlaw41_awake.f kj18).bind fun t475 => (if t475 = true then (if (t449 == t453 && (t450.toList == t454.toList)) = true then (if t451 = t455 then (if (t458 == t463 && (t459.toList == t464.toList)) = true then (if t460 = t465 then (if t468.toList = t471.toList then (if t469 = t472 then (some (t474 == 4)) else (some false)) else (some false)) else (some false)) else (some false)) else (some false)) else (some false)) else (some false))) = some r := H
          have A31 := Aside0.mk A310
          clear A310
          replace H := Option.bind_eq_some_iff.mp H
          obtain ⟨t475, A320, H⟩ := H
          replace H : (if t475 = true then (if (t449 == t453 && (t450.toList == t454.toList)) = true then (if t451 = t455 then (if (t458 == t463 && (t459.toList == t464.toList)) = true then (if t460 = t465 then (if t468.toList = t471.toList then (if t469 = t472 then (some (t474 == 4)) else (some false)) else (some false)) else (some false)) else (some false)) else (some false)) else (some false)) else (some false)) = some r := H
          have A32 := Aside0.mk A320
          clear A320
          by_cases c33 : t475 = true
          · subst c33
            have H1 : (if (t449 == t453 && (t450.toList == t454.toList)) = true then (if t451 = t455 then (if (t458 == t463 && (t459.toList == t464.toList)) = true then (if t460 = t465 then (if t468.toList = t471.toList then (if t469 = t472 then (some (t474 == 4)) else (some false)) else (some false)) else (some false)) else (some false)) else (some false)) else (some false)) = some r := by rw [if_pos rfl] at H; exact H
            clear H
            have H := H1
            clear H1
            by_cases c34 : (t449 == t453 && (t450.toList == t454.toList)) = true
            · rw [if_pos c34] at H
              have c34b0 : (t449 == t453 && (t450.toList == t454.toList)) = true := c34
              (try (have c34b1 : decide (t449 = t453 && (t450.toList == t454.toList)) = true := by simpa using c34))
              (try (have c34b2 : (t449 == t453 && (t450.toList == t454.toList)) = true := by simpa using c34))
              clear c34
              by_cases c35 : t451 = t455
              · rw [if_pos c35] at H
                have c35b0 : (t451 == t455) = true := beq_iff_eq.mpr c35
                have c35b1 : (t451 != t455) = false := bne_eq_false_iff_eq.mpr c35
                clear c35
                by_cases c36 : (t458 == t463 && (t459.toList == t464.toList)) = true
                · rw [if_pos c36] at H
                  have c36b0 : (t458 == t463 && (t459.toList == t464.toList)) = true := c36
                  (try (have c36b1 : decide (t458 = t463 && (t459.toList == t464.toList)) = true := by simpa using c36))
                  (try (have c36b2 : (t458 == t463 && (t459.toList == t464.toList)) = true := by simpa using c36))
                  clear c36
                  by_cases c37 : t460 = t465
                  · rw [if_pos c37] at H
                    have c37b0 : (t460 == t465) = true := beq_iff_eq.mpr c37
                    have c37b1 : (t460 != t465) = false := bne_eq_false_iff_eq.mpr c37
                    clear c37
                    by_cases c38 : t468.toList = t471.toList
                    · rw [if_pos c38] at H
                      have c38b0 : (t468.toList == t471.toList) = true := beq_iff_eq.mpr c38
                      have c38b1 : (t468.toList != t471.toList) = false := bne_eq_false_iff_eq.mpr c38
                      clear c38
                      by_cases c39 : t469 = t472
                      · rw [if_pos c39] at H
                        have c39b0 : (t469 == t472) = true := beq_iff_eq.mpr c39
                        have c39b1 : (t469 != t472) = false := bne_eq_false_iff_eq.mpr c39
                        clear c39
                        obtain rfl := Option.some.inj H
                        simp only [Option.some.injEq, Prod.mk.injEq] at H
                        obtain ⟨rfl⟩ := H
                        go_wp2_with (first | ((with_reducible refine gate_callee (f := 26) rfl ?_); refine goesL_ (some 48) rfl rfl Try.func26 (by kernel_rfl) rfl #[.string x15_18] rfl (by (try simp only [List.map_toArray, List.map_cons, List.map_nil]); first | done | rfl | (simp only [List.length_drop, List.length_take]; rfl)) ?_; (with_reducible refine (store_Latest.calls kj18 x15_18 t449 t450 t451 _ A21.out).mono ?_); rintro e w40 ⟨rfl, hb⟩; refine ⟨_, rfl, ?_⟩; have n0_ := Aside0.mk (below_step (by repeat (first | (with_reducible first | exact HB.out | apply below_alloc | apply pw_below_drewN | apply below_drew1) | exact HB.out)) hb); clear HB; have HB := n0_; clear n0_; (try clear hb); (try clear hb2); (try clear hk); (try clear hi)) | ((with_reducible refine gate_dst (N := 16) rfl ?_); refine box_event ?hg (N := 16) ?hd (cs := #[.int .i64 0, .string (⟨#[]⟩ : ByteArray)]) (t := 23) ?hr ?_; (case hd => rfl); (case hg => rfl); (case hr => first | (go_simp; done) | (go_simp; rfl)); intro gb452 hg w41 hbox hb; have n0_ := Aside0.mk (below_step (by repeat (first | (with_reducible first | exact HB.out | apply below_alloc | apply pw_below_drewN | apply below_drew1) | exact HB.out)) hb); have n1_ := Aside0.mk (hbox); have n2_ := Aside0.mk ((by rw [hg]; exact (below_size (by repeat (first | (with_reducible first | exact HB.out | apply below_alloc | apply pw_below_drewN | apply below_drew1) | exact HB.out))) : w.heap.size ≤ gb452)); have n3_ := Aside0.mk ((by rw [hg]; exact (below_size (by repeat (first | (with_reducible first | exact HB.out | apply below_alloc | apply pw_below_drewN | apply below_drew1) | exact HB.out))) : w.heap.size ≤ gb452)); clear HB; have HB := n0_; have BK452 := n1_; have GW452 := n2_; have GE452 := n3_; clear n0_ n1_ n2_ n3_; clear hb hbox hg; have hcz42_0 : w41.cell? ⟨gb452, 0, none⟩ = some (.int .i64 0) := (blk_cell BK452.out 0).trans rfl; have hcz42_1 : w41.cell? ⟨gb452, 1, none⟩ = some (.string (⟨#[]⟩ : ByteArray)) := (blk_cell BK452.out 1).trans rfl; have hfz42_0 := blk_frozen BK452.out 0; have hfz42_1 := blk_frozen BK452.out 1) | ((with_reducible refine gate_callee (f := 27) rfl ?_); refine goesL_ (some 53) rfl rfl Try.func27 (by kernel_rfl) rfl #[.string x15_18] rfl (by (try simp only [List.map_toArray, List.map_cons, List.map_nil]); first | done | rfl | (simp only [List.length_drop, List.length_take]; rfl)) ?_; (with_reducible refine (railplanref41_Latest.calls kj18 x15_18 t453 t454 t455 _ A22.out).mono ?_); rintro e w43 ⟨rfl, hb⟩; refine ⟨_, rfl, ?_⟩; have n0_ := Aside0.mk (blk_below (g := gb452) (o := .cells #[.int .i64 t449, .string t450] 23 (0, 0)) (by (with_reducible repeat (first | refine blk_drewN ?_ _ | refine blk_drew ?_ | refine blk_alloc ?_ _)); refine blk_put (cs := #[.int .i64 t449, .string (⟨#[]⟩ : ByteArray)]) ?_ 1 _ rfl; (with_reducible repeat (first | refine blk_drewN ?_ _ | refine blk_drew ?_ | refine blk_alloc ?_ _)); refine blk_put (cs := #[.int .i64 0, .string (⟨#[]⟩ : ByteArray)]) ?_ 0 _ rfl; (with_reducible repeat (first | refine blk_drewN ?_ _ | refine blk_drew ?_ | refine blk_alloc ?_ _)); exact BK452.out) hb); have n1_ := Aside0.mk (below_step (by repeat (first | (with_reducible first | exact HB.out | apply below_alloc | apply pw_below_drewN | apply below_drew1 | refine below_set ?_ GE452.out) | exact HB.out)) hb); clear BK452; clear HB; have BK452 := n0_; have HB := n1_; clear n0_ n1_; (try clear hb); (try clear hb2); (try clear hk); (try clear hi)) | ((with_reducible refine gate_dst (N := 18) rfl ?_); refine box_event ?hg (N := 18) ?hd (cs := #[.int .i64 0, .string (⟨#[]⟩ : ByteArray)]) (t := 23) ?hr ?_; (case hd => rfl); (case hg => rfl); (case hr => first | (go_simp; done) | (go_simp; rfl)); intro gb456 hg w44 hbox hb; have n0_ := Aside0.mk (blk_below (g := gb452) (o := .cells #[.int .i64 t449, .string t450] 23 (0, 0)) (by (with_reducible repeat (first | refine blk_drewN ?_ _ | refine blk_drew ?_ | refine blk_alloc ?_ _)); exact BK452.out) hb); have n1_ := Aside0.mk (below_step (by repeat (first | (with_reducible first | exact HB.out | apply below_alloc | apply pw_below_drewN | apply below_drew1 | refine below_set ?_ GE452.out) | exact HB.out)) hb); have n2_ := Aside0.mk (hbox); have n3_ := Aside0.mk ((by rw [hg]; exact (below_size (by repeat (first | (with_reducible first | exact HB.out | apply below_alloc | apply pw_below_drewN | apply below_drew1 | refine below_set ?_ GE452.out) | exact HB.out))) : w.heap.size ≤ gb456)); have n4_ := Aside0.mk ((by rw [hg]; exact (below_size (by repeat (first | (with_reducible first | exact HB.out | apply below_alloc | apply pw_below_drewN | apply below_drew1 | refine below_set ?_ GE452.out) | exact HB.out))) : w.heap.size ≤ gb456)); have n5_ := Aside0.mk ((by rw [hg]; exact Nat.ne_of_lt (blk_lt (g := gb452) (o := .cells #[.int .i64 t449, .string t450] 23 (0, 0)) (by (with_reducible repeat (first | refine blk_drewN ?_ _ | refine blk_drew ?_ | refine blk_alloc ?_ _)); exact BK452.out)) : gb452 ≠ gb456)); have n6_ := Aside0.mk ((by rw [hg]; exact Nat.ne_of_gt (blk_lt (g := gb452) (o := .cells #[.int .i64 t449, .string t450] 23 (0, 0)) (by (with_reducible repeat (first | refine blk_drewN ?_ _ | refine blk_drew ?_ | refine blk_alloc ?_ _)); exact BK452.out)) : gb456 ≠ gb452)); clear BK452; clear HB; have BK452 := n0_; have HB := n1_; have BK456 := n2_; have GW456 := n3_; have GE456 := n4_; have NB452_456 := n5_; have NB456_452 := n6_; clear n0_ n1_ n2_ n3_ n4_ n5_ n6_; clear hb hbox hg; have hnb45 := NB456_452.out; have hnc45 := NB452_456.out; have hcz46_0 : w44.cell? ⟨gb456, 0, none⟩ = some (.int .i64 0) := (blk_cell BK456.out 0).trans rfl; have hcz46_1 : w44.cell? ⟨gb456, 1, none⟩ = some (.string (⟨#[]⟩ : ByteArray)) := (blk_cell BK456.out 1).trans rfl; have hfz46_0 := blk_frozen BK456.out 0; have hfz46_1 := blk_frozen BK456.out 1) | ((with_reducible refine gate_callee (f := 14) rfl ?_); refine goesL_ (some 59) rfl rfl Try.func14 (by kernel_rfl) rfl #[.int .i64 a5, .int .i64 14] rfl (by (try simp only [List.map_toArray, List.map_cons, List.map_nil]); first | done | rfl | (simp only [List.length_drop, List.length_take]; rfl)) ?_; (with_reducible refine (railplankeep_Pick.calls a5 14 t457 _ A23.out).mono ?_); rintro e w' ⟨rfl, ⟨nd, rfl⟩⟩; refine ⟨_, rfl, ?_⟩) | ((with_reducible refine gate_callee (f := 24) rfl ?_); refine goesL_ (some 60) rfl rfl Try.func24 (by kernel_rfl) rfl #[.string x15_18, .int .i64 t457] rfl (by (try simp only [List.map_toArray, List.map_cons, List.map_nil]); first | done | rfl | (simp only [List.length_drop, List.length_take]; rfl)) ?_; (with_reducible refine (store_Get.calls kj18 x15_18 t457 t458 t459 t460 _ A24.out).mono ?_); rintro e w47 ⟨rfl, hb⟩; refine ⟨_, rfl, ?_⟩; have n0_ := Aside0.mk (blk_below (g := gb452) (o := .cells #[.int .i64 t449, .string t450] 23 (0, 0)) (by (with_reducible repeat (first | refine blk_drewN ?_ _ | refine blk_drew ?_ | refine blk_alloc ?_ _)); refine blk_far ?_ NB452_456.out _; (with_reducible repeat (first | refine blk_drewN ?_ _ | refine blk_drew ?_ | refine blk_alloc ?_ _)); refine blk_far ?_ NB452_456.out _; (with_reducible repeat (first | refine blk_drewN ?_ _ | refine blk_drew ?_ | refine blk_alloc ?_ _)); exact BK452.out) hb); have n1_ := Aside0.mk (blk_below (g := gb456) (o := .cells #[.int .i64 t453, .string t454] 23 (0, 0)) (by (with_reducible repeat (first | refine blk_drewN ?_ _ | refine blk_drew ?_ | refine blk_alloc ?_ _)); refine blk_put (cs := #[.int .i64 t453, .string (⟨#[]⟩ : ByteArray)]) ?_ 1 _ rfl; (with_reducible repeat (first | refine blk_drewN ?_ _ | refine blk_drew ?_ | refine blk_alloc ?_ _)); refine blk_put (cs := #[.int .i64 0, .string (⟨#[]⟩ : ByteArray)]) ?_ 0 _ rfl; (with_reducible repeat (first | refine blk_drewN ?_ _ | refine blk_drew ?_ | refine blk_alloc ?_ _)); exact BK456.out) hb); have n2_ := Aside0.mk (below_step (by repeat (first | (with_reducible first | exact HB.out | apply below_alloc | apply pw_below_drewN | apply below_drew1 | refine below_set ?_ GE452.out | refine below_set ?_ GE456.out) | exact HB.out)) hb); clear BK452; clear BK456; clear HB; have BK452 := n0_; have BK456 := n1_; have HB := n2_; clear n0_ n1_ n2_; (try clear hb); (try clear hb2); (try clear hk); (try clear hi)) | ((with_reducible refine gate_dst (N := 20) rfl ?_); refine box_event ?hg (N := 20) ?hd (cs := #[.int .i64 0, .string (⟨#[]⟩ : ByteArray)]) (t := 23) ?hr ?_; (case hd => rfl); (case hg => rfl); (case hr => first | (go_simp; done) | (go_simp; rfl)); intro gb461 hg w48 hbox hb; have n0_ := Aside0.mk (blk_below (g := gb452) (o := .cells #[.int .i64 t449, .string t450] 23 (0, 0)) (by (with_reducible repeat (first | refine blk_drewN ?_ _ | refine blk_drew ?_ | refine blk_alloc ?_ _)); exact BK452.out) hb); have n1_ := Aside0.mk (blk_below (g := gb456) (o := .cells #[.int .i64 t453, .string t454] 23 (0, 0)) (by (with_reducible repeat (first | refine blk_drewN ?_ _ | refine blk_drew ?_ | refine blk_alloc ?_ _)); exact BK456.out) hb); have n2_ := Aside0.mk (below_step (by repeat (first | (with_reducible first | exact HB.out | apply below_alloc | apply pw_below_drewN | apply below_drew1 | refine below_set ?_ GE452.out | refine below_set ?_ GE456.out) | exact HB.out)) hb); have n3_ := Aside0.mk (hbox); have n4_ := Aside0.mk ((by rw [hg]; exact (below_size (by repeat (first | (with_reducible first | exact HB.out | apply below_alloc | apply pw_below_drewN | apply below_drew1 | refine below_set ?_ GE452.out | refine below_set ?_ GE456.out) | exact HB.out))) : w.heap.size ≤ gb461)); have n5_ := Aside0.mk ((by rw [hg]; exact (below_size (by repeat (first | (with_reducible first | exact HB.out | apply below_alloc | apply pw_below_drewN | apply below_drew1 | refine below_set ?_ GE452.out | refine below_set ?_ GE456.out) | exact HB.out))) : w.heap.size ≤ gb461)); have n6_ := Aside0.mk ((by rw [hg]; exact Nat.ne_of_lt (blk_lt (g := gb452) (o := .cells #[.int .i64 t449, .string t450] 23 (0, 0)) (by (with_reducible repeat (first | refine blk_drewN ?_ _ | refine blk_drew ?_ | refine blk_alloc ?_ _)); exact BK452.out)) : gb452 ≠ gb461)); have n7_ := Aside0.mk ((by rw [hg]; exact Nat.ne_of_gt (blk_lt (g := gb452) (o := .cells #[.int .i64 t449, .string t450] 23 (0, 0)) (by (with_reducible repeat (first | refine blk_drewN ?_ _ | refine blk_drew ?_ | refine blk_alloc ?_ _)); exact BK452.out)) : gb461 ≠ gb452)); have n8_ := Aside0.mk ((by rw [hg]; exact Nat.ne_of_lt (blk_lt (g := gb456) (o := .cells #[.int .i64 t453, .string t454] 23 (0, 0)) (by (with_reducible repeat (first | refine blk_drewN ?_ _ | refine blk_drew ?_ | refine blk_alloc ?_ _)); exact BK456.out)) : gb456 ≠ gb461)); have n9_ := Aside0.mk ((by rw [hg]; exact Nat.ne_of_gt (blk_lt (g := gb456) (o := .cells #[.int .i64 t453, .string t454] 23 (0, 0)) (by (with_reducible repeat (first | refine blk_drewN ?_ _ | refine blk_drew ?_ | refine blk_alloc ?_ _)); exact BK456.out)) : gb461 ≠ gb456)); clear BK452; clear BK456; clear HB; have BK452 := n0_; have BK456 := n1_; have HB := n2_; have BK461 := n3_; have GW461 := n4_; have GE461 := n5_; have NB452_461 := n6_; have NB461_452 := n7_; have NB456_461 := n8_; have NB461_456 := n9_; clear n0_ n1_ n2_ n3_ n4_ n5_ n6_ n7_ n8_ n9_; clear hb hbox hg; have hnb49 := NB461_452.out; have hnc49 := NB452_461.out; have hnb50 := NB461_456.out; have hnc50 := NB456_461.out; have hcz51_0 : w48.cell? ⟨gb461, 0, none⟩ = some (.int .i64 0) := (blk_cell BK461.out 0).trans rfl; have hcz51_1 : w48.cell? ⟨gb461, 1, none⟩ = some (.string (⟨#[]⟩ : ByteArray)) := (blk_cell BK461.out 1).trans rfl; have hfz51_0 := blk_frozen BK461.out 0; have hfz51_1 := blk_frozen BK461.out 1) | ((with_reducible refine gate_callee (f := 14) rfl ?_); refine goesL_ (some 66) rfl rfl Try.func14 (by kernel_rfl) rfl #[.int .i64 a5, .int .i64 14] rfl (by (try simp only [List.map_toArray, List.map_cons, List.map_nil]); first | done | rfl | (simp only [List.length_drop, List.length_take]; rfl)) ?_; (with_reducible refine (railplankeep_Pick.calls a5 14 t462 _ A25.out).mono ?_); rintro e w' ⟨rfl, ⟨nd, rfl⟩⟩; refine ⟨_, rfl, ?_⟩) | ((with_reducible refine gate_callee (f := 28) rfl ?_); refine goesL_ (some 67) rfl rfl Try.func28 (by kernel_rfl) rfl #[.string x15_18, .int .i64 t462] rfl (by (try simp only [List.map_toArray, List.map_cons, List.map_nil]); first | done | rfl | (simp only [List.length_drop, List.length_take]; rfl)) ?_; (with_reducible refine (railplanref41_Get.calls kj18 x15_18 t462 t463 t464 t465 _ A26.out).mono ?_); rintro e w52 ⟨rfl, hb⟩; refine ⟨_, rfl, ?_⟩; have n0_ := Aside0.mk (blk_below (g := gb452) (o := .cells #[.int .i64 t449, .string t450] 23 (0, 0)) (by (with_reducible repeat (first | refine blk_drewN ?_ _ | refine blk_drew ?_ | refine blk_alloc ?_ _)); refine blk_far ?_ NB452_461.out _; (with_reducible repeat (first | refine blk_drewN ?_ _ | refine blk_drew ?_ | refine blk_alloc ?_ _)); refine blk_far ?_ NB452_461.out _; (with_reducible repeat (first | refine blk_drewN ?_ _ | refine blk_drew ?_ | refine blk_alloc ?_ _)); exact BK452.out) hb); have n1_ := Aside0.mk (blk_below (g := gb456) (o := .cells #[.int .i64 t453, .string t454] 23 (0, 0)) (by (with_reducible repeat (first | refine blk_drewN ?_ _ | refine blk_drew ?_ | refine blk_alloc ?_ _)); refine blk_far ?_ NB456_461.out _; (with_reducible repeat (first | refine blk_drewN ?_ _ | refine blk_drew ?_ | refine blk_alloc ?_ _)); refine blk_far ?_ NB456_461.out _; (with_reducible repeat (first | refine blk_drewN ?_ _ | refine blk_drew ?_ | refine blk_alloc ?_ _)); exact BK456.out) hb); have n2_ := Aside0.mk (blk_below (g := gb461) (o := .cells #[.int .i64 t458, .string t459] 23 (0, 0)) (by (with_reducible repeat (first | refine blk_drewN ?_ _ | refine blk_drew ?_ | refine blk_alloc ?_ _)); refine blk_put (cs := #[.int .i64 t458, .string (⟨#[]⟩ : ByteArray)]) ?_ 1 _ rfl; (with_reducible repeat (first | refine blk_drewN ?_ _ | refine blk_drew ?_ | refine blk_alloc ?_ _)); refine blk_put (cs := #[.int .i64 0, .string (⟨#[]⟩ : ByteArray)]) ?_ 0 _ rfl; (with_reducible repeat (first | refine blk_drewN ?_ _ | refine blk_drew ?_ | refine blk_alloc ?_ _)); exact BK461.out) hb); have n3_ := Aside0.mk (below_step (by repeat (first | (with_reducible first | exact HB.out | apply below_alloc | apply pw_below_drewN | apply below_drew1 | refine below_set ?_ GE452.out | refine below_set ?_ GE456.out | refine below_set ?_ GE461.out) | exact HB.out)) hb); clear BK452; clear BK456; clear BK461; clear HB; have BK452 := n0_; have BK456 := n1_; have BK461 := n2_; have HB := n3_; clear n0_ n1_ n2_ n3_; (try clear hb); (try clear hb2); (try clear hk); (try clear hi)) | ((with_reducible refine gate_dst (N := 22) rfl ?_); refine box_event ?hg (N := 22) ?hd (cs := #[.int .i64 0, .string (⟨#[]⟩ : ByteArray)]) (t := 23) ?hr ?_; (case hd => rfl); (case hg => rfl); (case hr => first | (go_simp; done) | (go_simp; rfl)); intro gb466 hg w53 hbox hb; have n0_ := Aside0.mk (blk_below (g := gb452) (o := .cells #[.int .i64 t449, .string t450] 23 (0, 0)) (by (with_reducible repeat (first | refine blk_drewN ?_ _ | refine blk_drew ?_ | refine blk_alloc ?_ _)); exact BK452.out) hb); have n1_ := Aside0.mk (blk_below (g := gb456) (o := .cells #[.int .i64 t453, .string t454] 23 (0, 0)) (by (with_reducible repeat (first | refine blk_drewN ?_ _ | refine blk_drew ?_ | refine blk_alloc ?_ _)); exact BK456.out) hb); have n2_ := Aside0.mk (blk_below (g := gb461) (o := .cells #[.int .i64 t458, .string t459] 23 (0, 0)) (by (with_reducible repeat (first | refine blk_drewN ?_ _ | refine blk_drew ?_ | refine blk_alloc ?_ _)); exact BK461.out) hb); have n3_ := Aside0.mk (below_step (by repeat (first | (with_reducible first | exact HB.out | apply below_alloc | apply pw_below_drewN | apply below_drew1 | refine below_set ?_ GE452.out | refine below_set ?_ GE456.out | refine below_set ?_ GE461.out) | exact HB.out)) hb); have n4_ := Aside0.mk (hbox); have n5_ := Aside0.mk ((by rw [hg]; exact (below_size (by repeat (first | (with_reducible first | exact HB.out | apply below_alloc | apply pw_below_drewN | apply below_drew1 | refine below_set ?_ GE452.out | refine below_set ?_ GE456.out | refine below_set ?_ GE461.out) | exact HB.out))) : w.heap.size ≤ gb466)); have n6_ := Aside0.mk ((by rw [hg]; exact (below_size (by repeat (first | (with_reducible first | exact HB.out | apply below_alloc | apply pw_below_drewN | apply below_drew1 | refine below_set ?_ GE452.out | refine below_set ?_ GE456.out | refine below_set ?_ GE461.out) | exact HB.out))) : w.heap.size ≤ gb466)); have n7_ := Aside0.mk ((by rw [hg]; exact Nat.ne_of_lt (blk_lt (g := gb452) (o := .cells #[.int .i64 t449, .string t450] 23 (0, 0)) (by (with_reducible repeat (first | refine blk_drewN ?_ _ | refine blk_drew ?_ | refine blk_alloc ?_ _)); exact BK452.out)) : gb452 ≠ gb466)); have n8_ := Aside0.mk ((by rw [hg]; exact Nat.ne_of_gt (blk_lt (g := gb452) (o := .cells #[.int .i64 t449, .string t450] 23 (0, 0)) (by (with_reducible repeat (first | refine blk_drewN ?_ _ | refine blk_drew ?_ | refine blk_alloc ?_ _)); exact BK452.out)) : gb466 ≠ gb452)); have n9_ := Aside0.mk ((by rw [hg]; exact Nat.ne_of_lt (blk_lt (g := gb456) (o := .cells #[.int .i64 t453, .string t454] 23 (0, 0)) (by (with_reducible repeat (first | refine blk_drewN ?_ _ | refine blk_drew ?_ | refine blk_alloc ?_ _)); exact BK456.out)) : gb456 ≠ gb466)); have n10_ := Aside0.mk ((by rw [hg]; exact Nat.ne_of_gt (blk_lt (g := gb456) (o := .cells #[.int .i64 t453, .string t454] 23 (0, 0)) (by (with_reducible repeat (first | refine blk_drewN ?_ _ | refine blk_drew ?_ | refine blk_alloc ?_ _)); exact BK456.out)) : gb466 ≠ gb456)); have n11_ := Aside0.mk ((by rw [hg]; exact Nat.ne_of_lt (blk_lt (g := gb461) (o := .cells #[.int .i64 t458, .string t459] 23 (0, 0)) (by (with_reducible repeat (first | refine blk_drewN ?_ _ | refine blk_drew ?_ | refine blk_alloc ?_ _)); exact BK461.out)) : gb461 ≠ gb466)); have n12_ := Aside0.mk ((by rw [hg]; exact Nat.ne_of_gt (blk_lt (g := gb461) (o := .cells #[.int .i64 t458, .string t459] 23 (0, 0)) (by (with_reducible repeat (first | refine blk_drewN ?_ _ | refine blk_drew ?_ | refine blk_alloc ?_ _)); exact BK461.out)) : gb466 ≠ gb461)); clear BK452; clear BK456; clear BK461; clear HB; have BK452 := n0_; have BK456 := n1_; have BK461 := n2_; have HB := n3_; have BK466 := n4_; have GW466 := n5_; have GE466 := n6_; have NB452_466 := n7_; have NB466_452 := n8_; have NB456_466 := n9_; have NB466_456 := n10_; have NB461_466 := n11_; have NB466_461 := n12_; clear n0_ n1_ n2_ n3_ n4_ n5_ n6_ n7_ n8_ n9_ n10_ n11_ n12_; clear hb hbox hg; have hnb54 := NB466_452.out; have hnc54 := NB452_466.out; have hnb55 := NB466_456.out; have hnc55 := NB456_466.out; have hnb56 := NB466_461.out; have hnc56 := NB461_466.out; have hcz57_0 : w53.cell? ⟨gb466, 0, none⟩ = some (.int .i64 0) := (blk_cell BK466.out 0).trans rfl; have hcz57_1 : w53.cell? ⟨gb466, 1, none⟩ = some (.string (⟨#[]⟩ : ByteArray)) := (blk_cell BK466.out 1).trans rfl; have hfz57_0 := blk_frozen BK466.out 0; have hfz57_1 := blk_frozen BK466.out 1) | ((with_reducible refine gate_callee (f := 14) rfl ?_); refine goesL_ (some 73) rfl rfl Try.func14 (by kernel_rfl) rfl #[.int .i64 a6, .int .i64 9] rfl (by (try simp only [List.map_toArray, List.map_cons, List.map_nil]); first | done | rfl | (simp only [List.length_drop, List.length_take]; rfl)) ?_; (with_reducible refine (railplankeep_Pick.calls a6 9 t467 _ A27.out).mono ?_); rintro e w' ⟨rfl, ⟨nd, rfl⟩⟩; refine ⟨_, rfl, ?_⟩) | ((with_reducible refine gate_callee (f := 25) rfl ?_); refine goesL_ (some 75) rfl rfl Try.func25 (by kernel_rfl) rfl #[.string x15_18, .int .i64 (wrap64 (t467 - 1))] rfl (by (try simp only [List.map_toArray, List.map_cons, List.map_nil]); first | done | rfl | (simp only [List.length_drop, List.length_take]; rfl)) ?_; (with_reducible refine (store_Compact.calls kj18 x15_18 (wrap64 (t467 - 1)) t468 t469 _ A28.out).mono ?_); rintro e w58 ⟨rfl, hb⟩; refine ⟨_, rfl, ?_⟩; have n0_ := Aside0.mk (blk_below (g := gb452) (o := .cells #[.int .i64 t449, .string t450] 23 (0, 0)) (by (with_reducible repeat (first | refine blk_drewN ?_ _ | refine blk_drew ?_ | refine blk_alloc ?_ _)); refine blk_far ?_ NB452_466.out _; (with_reducible repeat (first | refine blk_drewN ?_ _ | refine blk_drew ?_ | refine blk_alloc ?_ _)); refine blk_far ?_ NB452_466.out _; (with_reducible repeat (first | refine blk_drewN ?_ _ | refine blk_drew ?_ | refine blk_alloc ?_ _)); exact BK452.out) hb); have n1_ := Aside0.mk (blk_below (g := gb456) (o := .cells #[.int .i64 t453, .string t454] 23 (0, 0)) (by (with_reducible repeat (first | refine blk_drewN ?_ _ | refine blk_drew ?_ | refine blk_alloc ?_ _)); refine blk_far ?_ NB456_466.out _; (with_reducible repeat (first | refine blk_drewN ?_ _ | refine blk_drew ?_ | refine blk_alloc ?_ _)); refine blk_far ?_ NB456_466.out _; (with_reducible repeat (first | refine blk_drewN ?_ _ | refine blk_drew ?_ | refine blk_alloc ?_ _)); exact BK456.out) hb); have n2_ := Aside0.mk (blk_below (g := gb461) (o := .cells #[.int .i64 t458, .string t459] 23 (0, 0)) (by (with_reducible repeat (first | refine blk_drewN ?_ _ | refine blk_drew ?_ | refine blk_alloc ?_ _)); refine blk_far ?_ NB461_466.out _; (with_reducible repeat (first | refine blk_drewN ?_ _ | refine blk_drew ?_ | refine blk_alloc ?_ _)); refine blk_far ?_ NB461_466.out _; (with_reducible repeat (first | refine blk_drewN ?_ _ | refine blk_drew ?_ | refine blk_alloc ?_ _)); exact BK461.out) hb); have n3_ := Aside0.mk (blk_below (g := gb466) (o := .cells #[.int .i64 t463, .string t464] 23 (0, 0)) (by (with_reducible repeat (first | refine blk_drewN ?_ _ | refine blk_drew ?_ | refine blk_alloc ?_ _)); refine blk_put (cs := #[.int .i64 t463, .string (⟨#[]⟩ : ByteArray)]) ?_ 1 _ rfl; (with_reducible repeat (first | refine blk_drewN ?_ _ | refine blk_drew ?_ | refine blk_alloc ?_ _)); refine blk_put (cs := #[.int .i64 0, .string (⟨#[]⟩ : ByteArray)]) ?_ 0 _ rfl; (with_reducible repeat (first | refine blk_drewN ?_ _ | refine blk_drew ?_ | refine blk_alloc ?_ _)); exact BK466.out) hb); have n4_ := Aside0.mk (below_step (by repeat (first | (with_reducible first | exact HB.out | apply below_alloc | apply pw_below_drewN | apply below_drew1 | refine below_set ?_ GE452.out | refine below_set ?_ GE456.out | refine below_set ?_ GE461.out | refine below_set ?_ GE466.out) | exact HB.out)) hb); clear BK452; clear BK456; clear BK461; clear BK466; clear HB; have BK452 := n0_; have BK456 := n1_; have BK461 := n2_; have BK466 := n3_; have HB := n4_; clear n0_ n1_ n2_ n3_ n4_; (try clear hb); (try clear hb2); (try clear hk); (try clear hi)) | ((with_reducible refine gate_callee (f := 14) rfl ?_); refine goesL_ (some 81) rfl rfl Try.func14 (by kernel_rfl) rfl #[.int .i64 a6, .int .i64 9] rfl (by (try simp only [List.map_toArray, List.map_cons, List.map_nil]); first | done | rfl | (simp only [List.length_drop, List.length_take]; rfl)) ?_; (with_reducible refine (railplankeep_Pick.calls a6 9 t470 _ A29.out).mono ?_); rintro e w' ⟨rfl, ⟨nd, rfl⟩⟩; refine ⟨_, rfl, ?_⟩) | ((with_reducible refine gate_callee (f := 29) rfl ?_); refine goesL_ (some 83) rfl rfl Try.func29 (by kernel_rfl) rfl #[.string x15_18, .int .i64 (wrap64 (t470 - 1))] rfl (by (try simp only [List.map_toArray, List.map_cons, List.map_nil]); first | done | rfl | (simp only [List.length_drop, List.length_take]; rfl)) ?_; (with_reducible refine (railplanref41_Compact.calls kj18 x15_18 (wrap64 (t470 - 1)) t471 t472 _ A30.out).mono ?_); rintro e w59 ⟨rfl, hb⟩; refine ⟨_, rfl, ?_⟩; have n0_ := Aside0.mk (blk_below (g := gb452) (o := .cells #[.int .i64 t449, .string t450] 23 (0, 0)) (by (with_reducible repeat (first | refine blk_drewN ?_ _ | refine blk_drew ?_ | refine blk_alloc ?_ _)); exact BK452.out) hb); have n1_ := Aside0.mk (blk_below (g := gb456) (o := .cells #[.int .i64 t453, .string t454] 23 (0, 0)) (by (with_reducible repeat (first | refine blk_drewN ?_ _ | refine blk_drew ?_ | refine blk_alloc ?_ _)); exact BK456.out) hb); have n2_ := Aside0.mk (blk_below (g := gb461) (o := .cells #[.int .i64 t458, .string t459] 23 (0, 0)) (by (with_reducible repeat (first | refine blk_drewN ?_ _ | refine blk_drew ?_ | refine blk_alloc ?_ _)); exact BK461.out) hb); have n3_ := Aside0.mk (blk_below (g := gb466) (o := .cells #[.int .i64 t463, .string t464] 23 (0, 0)) (by (with_reducible repeat (first | refine blk_drewN ?_ _ | refine blk_drew ?_ | refine blk_alloc ?_ _)); exact BK466.out) hb); have n4_ := Aside0.mk (below_step (by repeat (first | (with_reducible first | exact HB.out | apply below_alloc | apply pw_below_drewN | apply below_drew1 | refine below_set ?_ GE452.out | refine below_set ?_ GE456.out | refine below_set ?_ GE461.out | refine below_set ?_ GE466.out) | exact HB.out)) hb); clear BK452; clear BK456; clear BK461; clear BK466; clear HB; have BK452 := n0_; have BK456 := n1_; have BK461 := n2_; have BK466 := n3_; have HB := n4_; clear n0_ n1_ n2_ n3_ n4_; (try clear hb); (try clear hb2); (try clear hk); (try clear hi)) | ((with_reducible refine gate_callee (f := 25) rfl ?_); refine goesL_ (some 88) rfl rfl Try.func25 (by kernel_rfl) rfl #[.string x15_18, .int .i64 65] rfl (by (try simp only [List.map_toArray, List.map_cons, List.map_nil]); first | done | rfl | (simp only [List.length_drop, List.length_take]; rfl)) ?_; (with_reducible refine (store_Compact.calls kj18 x15_18 65 t473 t474 _ A31.out).mono ?_); rintro e w60 ⟨rfl, hb⟩; refine ⟨_, rfl, ?_⟩; have n0_ := Aside0.mk (blk_below (g := gb452) (o := .cells #[.int .i64 t449, .string t450] 23 (0, 0)) (by (with_reducible repeat (first | refine blk_drewN ?_ _ | refine blk_drew ?_ | refine blk_alloc ?_ _)); exact BK452.out) hb); have n1_ := Aside0.mk (blk_below (g := gb456) (o := .cells #[.int .i64 t453, .string t454] 23 (0, 0)) (by (with_reducible repeat (first | refine blk_drewN ?_ _ | refine blk_drew ?_ | refine blk_alloc ?_ _)); exact BK456.out) hb); have n2_ := Aside0.mk (blk_below (g := gb461) (o := .cells #[.int .i64 t458, .string t459] 23 (0, 0)) (by (with_reducible repeat (first | refine blk_drewN ?_ _ | refine blk_drew ?_ | refine blk_alloc ?_ _)); exact BK461.out) hb); have n3_ := Aside0.mk (blk_below (g := gb466) (o := .cells #[.int .i64 t463, .string t464] 23 (0, 0)) (by (with_reducible repeat (first | refine blk_drewN ?_ _ | refine blk_drew ?_ | refine blk_alloc ?_ _)); exact BK466.out) hb); have n4_ := Aside0.mk (below_step (by repeat (first | (with_reducible first | exact HB.out | apply below_alloc | apply pw_below_drewN | apply below_drew1 | refine below_set ?_ GE452.out | refine below_set ?_ GE456.out | refine below_set ?_ GE461.out | refine below_set ?_ GE466.out) | exact HB.out)) hb); clear BK452; clear BK456; clear BK461; clear BK466; clear HB; have BK452 := n0_; have BK456 := n1_; have BK461 := n2_; have BK466 := n3_; have HB := n4_; clear n0_ n1_ n2_ n3_ n4_; (try clear hb); (try clear hb2); (try clear hk); (try clear hi)) | ((with_reducible refine gate_callee (f := 15) rfl ?_); refine goesL_ (some 91) rfl rfl Try.func15 (by kernel_rfl) rfl #[] rfl (by (try simp only [List.map_toArray, List.map_cons, List.map_nil]); first | done | rfl | (simp only [List.length_drop, List.length_take]; rfl)) ?_; (with_reducible refine (railplanlaw41_awake.calls kj18  true _ A32.out).mono ?_); rintro e w61 ⟨rfl, hb⟩; refine ⟨_, rfl, ?_⟩; have n0_ := Aside0.mk (blk_below (g := gb452) (o := .cells #[.int .i64 t449, .string t450] 23 (0, 0)) (by (with_reducible repeat (first | refine blk_drewN ?_ _ | refine blk_drew ?_ | refine blk_alloc ?_ _)); exact BK452.out) hb); have n1_ := Aside0.mk (blk_below (g := gb456) (o := .cells #[.int .i64 t453, .string t454] 23 (0, 0)) (by (with_reducible repeat (first | refine blk_drewN ?_ _ | refine blk_drew ?_ | refine blk_alloc ?_ _)); exact BK456.out) hb); have n2_ := Aside0.mk (blk_below (g := gb461) (o := .cells #[.int .i64 t458, .string t459] 23 (0, 0)) (by (with_reducible repeat (first | refine blk_drewN ?_ _ | refine blk_drew ?_ | refine blk_alloc ?_ _)); exact BK461.out) hb); have n3_ := Aside0.mk (blk_below (g := gb466) (o := .cells #[.int .i64 t463, .string t464] 23 (0, 0)) (by (with_reducible repeat (first | refine blk_drewN ?_ _ | refine blk_drew ?_ | refine blk_alloc ?_ _)); exact BK466.out) hb); have n4_ := Aside0.mk (below_step (by repeat (first | (with_reducible first | exact HB.out | apply below_alloc | apply pw_below_drewN | apply below_drew1 | refine below_set ?_ GE452.out | refine below_set ?_ GE456.out | refine below_set ?_ GE461.out | refine below_set ?_ GE466.out) | exact HB.out)) hb); clear BK452; clear BK456; clear BK461; clear BK466; clear HB; have BK452 := n0_; have BK456 := n1_; have BK461 := n2_; have BK466 := n3_; have HB := n4_; clear n0_ n1_ n2_ n3_ n4_; (try clear hb); (try clear hb2); (try clear hk); (try clear hi); have hcz62_0 : w61.cell? ⟨gb452, 0, none⟩ = some (.int .i64 t449) := (blk_cell BK452.out 0).trans rfl; have hcz62_1 : w61.cell? ⟨gb452, 1, none⟩ = some (.string t450) := (blk_cell BK452.out 1).trans rfl; have hfz62_0 := blk_frozen BK452.out 0; have hfz62_1 := blk_frozen BK452.out 1; have hcz63_0 : w61.cell? ⟨gb456, 0, none⟩ = some (.int .i64 t453) := (blk_cell BK456.out 0).trans rfl; have hcz63_1 : w61.cell? ⟨gb456, 1, none⟩ = some (.string t454) := (blk_cell BK456.out 1).trans rfl; have hfz63_0 := blk_frozen BK456.out 0; have hfz63_1 := blk_frozen BK456.out 1; have hcz64_0 : w61.cell? ⟨gb461, 0, none⟩ = some (.int .i64 t458) := (blk_cell BK461.out 0).trans rfl; have hcz64_1 : w61.cell? ⟨gb461, 1, none⟩ = some (.string t459) := (blk_cell BK461.out 1).trans rfl; have hfz64_0 := blk_frozen BK461.out 0; have hfz64_1 := blk_frozen BK461.out 1; have hcz65_0 : w61.cell? ⟨gb466, 0, none⟩ = some (.int .i64 t463) := (blk_cell BK466.out 0).trans rfl; have hcz65_1 : w61.cell? ⟨gb466, 1, none⟩ = some (.string t464) := (blk_cell BK466.out 1).trans rfl; have hfz65_0 := blk_frozen BK466.out 0; have hfz65_1 := blk_frozen BK466.out 1))
                        go_ret
                        exact ⟨by first | rfl | (simp [errW_none, errW_some] <;> rfl) | (simp [*, errW_none, errW_some] <;> rfl), by repeat (first | (with_reducible first | exact HB.out | apply below_alloc | apply pw_below_drewN | apply below_drew1 | refine below_set ?_ GE452.out | refine below_set ?_ GE456.out | refine below_set ?_ GE461.out | refine below_set ?_ GE466.out) | exact HB.out)⟩
                      · rw [if_neg c39] at H
                        have c39b0 : (t469 == t472) = false := beq_eq_false_iff_ne.mpr c39
                        have c39b1 : (t469 != t472) = true := bne_iff_ne.mpr c39
                        obtain rfl := Option.some.inj H
                        exact absurd hr_.out (by decide)
                    · rw [if_neg c38] at H
                      have c38b0 : (t468.toList == t471.toList) = false := beq_eq_false_iff_ne.mpr c38
                      have c38b1 : (t468.toList != t471.toList) = true := bne_iff_ne.mpr c38
                      obtain rfl := Option.some.inj H
                      exact absurd hr_.out (by decide)
                  · rw [if_neg c37] at H
                    have c37b0 : (t460 == t465) = false := beq_eq_false_iff_ne.mpr c37
                    have c37b1 : (t460 != t465) = true := bne_iff_ne.mpr c37
                    obtain rfl := Option.some.inj H
                    exact absurd hr_.out (by decide)
                · rw [if_neg c36] at H
                  have c36b0 : (t458 == t463 && (t459.toList == t464.toList)) = false := by simpa using c36
                  (try (have c36b1 : decide (t458 = t463 && (t459.toList == t464.toList)) = false := by simpa using c36))
                  (try (have c36b2 : (t458 == t463 && (t459.toList == t464.toList)) = false := by simpa using c36))
                  (try (have c36b3 : ¬ (t458 = t463 && (t459.toList == t464.toList)) := by simpa using c36))
                  clear c36
                  obtain rfl := Option.some.inj H
                  exact absurd hr_.out (by decide)
              · rw [if_neg c35] at H
                have c35b0 : (t451 == t455) = false := beq_eq_false_iff_ne.mpr c35
                have c35b1 : (t451 != t455) = true := bne_iff_ne.mpr c35
                obtain rfl := Option.some.inj H
                exact absurd hr_.out (by decide)
            · rw [if_neg c34] at H
              have c34b0 : (t449 == t453 && (t450.toList == t454.toList)) = false := by simpa using c34
              (try (have c34b1 : decide (t449 = t453 && (t450.toList == t454.toList)) = false := by simpa using c34))
              (try (have c34b2 : (t449 == t453 && (t450.toList == t454.toList)) = false := by simpa using c34))
              (try (have c34b3 : ¬ (t449 = t453 && (t450.toList == t454.toList)) := by simpa using c34))
              clear c34
              obtain rfl := Option.some.inj H
              exact absurd hr_.out (by decide)
          · replace c33 := Bool.eq_false_iff.mpr c33
            subst c33
            have H1 : (some false) = some r := by rw [if_neg (show ¬ (false = true) by decide)] at H; exact H
            clear H
            have H := H1
            clear H1
            obtain rfl := Option.some.inj H
            exact absurd hr_.out (by decide)

/-- THE ONE PURE STATEMENT of railplanlaw41_StoreRead: yours. -/
def railplanlaw41_StoreRead.Pure : Prop := ∀ (a0 : ByteArray) (l1 : List Int) (a2 : Int) (a3 : Int) (a4 : Int) (a5 : Int) (a6 : Int), a0.size ≤ 140737488351232 → l1.length ≤ maxLen → l1.length * 8 ≤ 140737488351232 → (∀ x ∈ l1, (Lit.int .i64 x).wf = true) → (Lit.int .i64 a2).wf = true → (Lit.int .i64 a3).wf = true → (Lit.int .i64 a4).wf = true → (Lit.int .i64 a5).wf = true → (Lit.int .i64 a6).wf = true → ∃ k, railplanlaw41_StoreRead.f k a0 l1 a2 a3 a4 a5 a6 = some true
theorem railplanlaw41_StoreRead.walk (P : railplanlaw41_StoreRead.Pure) (a0 : ByteArray) (a1 : Option Addr) (len1 cap1 : Nat) (z1 : List Int) (a2 : Int) (a3 : Int) (a4 : Int) (a5 : Int) (a6 : Int) (w : World) (w0 : a0.size ≤ 140737488351232) (w1 : (a1 = none ∧ len1 = 0 ∧ cap1 = 0 ∧ z1 = []) ∨ ∃ x, a1 = some x ∧ len1 ≤ cap1 ∧ cap1 ≤ maxLen ∧ z1.length = cap1 ∧ (∀ i, i < z1.length → w.cell? (x.add i) = some (.int .i64 (z1.getD i 0))) ∧ ∀ n ∈ z1, (Lit.int .i64 n).wf = true) (y1 : len1 * 8 ≤ 140737488351232) (w2 : (Lit.int .i64 a2).wf = true) (w3 : (Lit.int .i64 a3).wf = true) (w4 : (Lit.int .i64 a4).wf = true) (w5 : (Lit.int .i64 a5).wf = true) (w6 : (Lit.int .i64 a6).wf = true) :
    Calls Try.prog 11 #[.string a0, .slice a1 len1 cap1, .int .i64 a2, .int .i64 a3, .int .i64 a4, .int .i64 a5, .int .i64 a6] w fun e w' => e = .returned (.bool true) ∧ Below w.heap.size w w' := by
  obtain ⟨l1, rfl, hr1, hm1, hw1, hc1⟩ := ReadsInt.ofRowC w1
  obtain ⟨k, h⟩ := P a0 l1 a2 a3 a4 a5 a6 w0 hm1 y1 hw1 w2 w3 w4 w5 w6
  refine (railplanlaw41_StoreRead.calls k a0 _ _ l1 a2 a3 a4 a5 a6 true w (Kd.C_of_reads (d := (0 : Int)) (h1 := fun _ => rfl) hr1) hc1 ⟨rfl⟩ h).mono ?_
  rintro e w' ⟨rfl, hd⟩
  exact ⟨rfl, hd⟩

end Go.Proofs.Ytolckgeffmaakaa.X
