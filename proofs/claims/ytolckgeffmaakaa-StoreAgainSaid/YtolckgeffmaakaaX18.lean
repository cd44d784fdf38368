/- Written by a program of this claim. Proved: each Go function named below, called with any arguments at which its Lean function answers, returns that answer; or, of a law, its given statement. -/
import Derived.Test.YtolckgeffmaakaaX0
import Derived.Test.YtolckgeffmaakaaX3
import Derived.Test.YtolckgeffmaakaaX5
import Derived.Test.YtolckgeffmaakaaX7
import Derived.Test.YtolckgeffmaakaaX9
namespace Go.Proofs.Ytolckgeffmaakaa.X
open Go.RowKit Go.Proofs.YtolckgeffmaakaaW Go.Proofs.YtolckgeffmaakaaW.PrintWords Go.Proofs.YtolckgeffmaakaaW.PrintLast Go.Proofs.YtolckgeffmaakaaW.PrintMore
attribute [local go_sem] max2_int min2_int max_two min_two max_three min_three max_four min_four   -- for this text's walks alone
set_option linter.unusedVariables false
set_option linter.unusedSimpArgs false

/-! ### railplanlaw41_StoreAgain: function 7 -/
mutual
def railplanlaw41_StoreAgain.j0 : Nat → Int → ByteArray → Int → Int → Int → ByteArray → Option (Bool)
  | 0, _, _, _, _, _, _ => none
  | k + 1, x2, x7, x9, x10, x330000, x330001 => (railplankeep_Pick.f x330000 5).bind fun t339 => ((store_Append.f k x7 (wrap64 ((wrap64 (x10 + 1)) + t339)) x330001).bind fun bt341 => (if (x330001.size : Int) > 65536 then (railplanlaw41_StoreAgain.j1 k x2 x9 bt341.1 bt341.2 true (wrap64 ((wrap64 (x10 + 1)) + t339)) x330001) else (if bt341.2 = 0 then (railplanlaw41_StoreAgain.j1 k x2 x9 bt341.1 bt341.2 (decide ((bt341.1.size : Int) ≤ x9)) (wrap64 ((wrap64 (x10 + 1)) + t339)) x330001) else (railplanlaw41_StoreAgain.j1 k x2 x9 bt341.1 bt341.2 true (wrap64 ((wrap64 (x10 + 1)) + t339)) x330001))))
def railplanlaw41_StoreAgain.j1 : Nat → Int → Int → ByteArray → Int → Bool → Int → ByteArray → Option (Bool)
  | 0, _, _, _, _, _, _, _ => none
  | k + 1, x2, x9, x12, x13, x62, x341000, x341001 => if x62 = true then ((railplanlaw41_awake.f k).bind fun t343 => (if t343 = true then (if x13 = 7 then (some (decide ((x341001.size : Int) > 65536))) else (some false)) else (some false))) else ((railplankeep_Pick.f x2 (wrap64 ((x12.size : Int) - x9))).bind fun t344 => (if 0 ≤ (wrap64 (x9 + t344)) then (if (wrap64 (x9 + t344)) ≤ (x12.size : Int) then ((store_Append.f k (x12.extract 0 ((wrap64 (x9 + t344)) : Int).toNat) x341000 x341001).bind fun bt345 => ((railplanlaw41_awake.f k).bind fun t347 => (if t347 = true then (if bt345.2 = 0 then (some (bt345.1.toList == x12.toList)) else (some false)) else (some false)))) else (none)) else (none)))
end
def railplanlaw41_StoreAgain.f (k : Nat) (l0 : List Int) (a1_0 : Int) (a1_1 : ByteArray) (a2 : Int) : Option (Bool) := (railplanlaw41_versions.f k l0).bind fun t330 => ((railplanlaw41_file.f k t330).bind fun t333 => ((railplanref41_Scan.f k t333).bind fun bt334 => (if (bt334.1.length : Int) > 0 then (if 0 ≤ (wrap64 ((bt334.1.length : Int) - 1)) then (if (wrap64 ((bt334.1.length : Int) - 1)) < (bt334.1.length : Int) then (railplanlaw41_StoreAgain.j0 k a2 t333 bt334.2 ((rd_T23 bt334.1 (wrap64 ((bt334.1.length : Int) - 1))).f0) a1_0 a1_1) else (none)) else (none)) else (railplanlaw41_StoreAgain.j0 k a2 t333 bt334.2 0 a1_0 a1_1))))
theorem railplanlaw41_StoreAgain.mono_l : ∀ k, (∀ y0 y1 y2 y3 y4 y5, LeO (railplanlaw41_StoreAgain.j0 k y0 y1 y2 y3 y4 y5) (railplanlaw41_StoreAgain.j0 (k + 1) y0 y1 y2 y3 y4 y5)) ∧ (∀ y0 y1 y2 y3 y4 y5 y6, LeO (railplanlaw41_StoreAgain.j1 k y0 y1 y2 y3 y4 y5 y6) (railplanlaw41_StoreAgain.j1 (k + 1) y0 y1 y2 y3 y4 y5 y6))
  | 0 => ⟨fun _ _ _ _ _ _ r h => by simp [railplanlaw41_StoreAgain.j0] at h, fun _ _ _ _ _ _ _ r h => by simp [railplanlaw41_StoreAgain.j1] at h⟩
  | k + 1 => by
    obtain ⟨ih0, ih1⟩ := railplanlaw41_StoreAgain.mono_l k
    refine ⟨?_, ?_⟩
    · intro y0 y1 y2 y3 y4 y5
      unfold railplanlaw41_StoreAgain.j0
      repeat' first
      | (with_reducible exact ih0 _ _ _ _ _ _)
      | (with_reducible exact ih1 _ _ _ _ _ _ _)
      | (with_reducible exact railplanlaw41_awake.mono _)
      | (with_reducible exact railplanlaw41_file.mono _ _)
      | (with_reducible exact railplanlaw41_versions.mono _ _)
      | (with_reducible exact railplanref41_Scan.mono _ _)
      | (with_reducible exact store_Append.mono _ _ _ _)
      | (with_reducible exact LeO.refl _)
      | (with_reducible exact LeO.none _)
      | (with_reducible refine LeO.ite ?_ ?_)
      | (with_reducible refine LeO.bind ?_ (fun _ => ?_))
      | exact ih0 _ _ _ _ _ _
      | exact ih1 _ _ _ _ _ _ _
      | exact railplanlaw41_awake.mono _
      | exact railplanlaw41_file.mono _ _
      | exact railplanlaw41_versions.mono _ _
      | exact railplanref41_Scan.mono _ _
      | exact store_Append.mono _ _ _ _
      | exact LeO.none _
      | refine LeO.ite ?_ ?_
      | refine LeO.bind ?_ (fun _ => ?_)
    · intro y0 y1 y2 y3 y4 y5 y6
      unfold railplanlaw41_StoreAgain.j1
      repeat' first
      | (with_reducible exact ih0 _ _ _ _ _ _)
      | (with_reducible exact ih1 _ _ _ _ _ _ _)
      | (with_reducible exact railplanlaw41_awake.mono _)
      | (with_reducible exact railplanlaw41_file.mono _ _)
      | (with_reducible exact railplanlaw41_versions.mono _ _)
      | (with_reducible exact railplanref41_Scan.mono _ _)
      | (with_reducible exact store_Append.mono _ _ _ _)
      | (with_reducible exact LeO.refl _)
      | (with_reducible exact LeO.none _)
      | (with_reducible refine LeO.ite ?_ ?_)
      | (with_reducible refine LeO.bind ?_ (fun _ => ?_))
      | exact ih0 _ _ _ _ _ _
      | exact ih1 _ _ _ _ _ _ _
      | exact railplanlaw41_awake.mono _
      | exact railplanlaw41_file.mono _ _
      | exact railplanlaw41_versions.mono _ _
      | exact railplanref41_Scan.mono _ _
      | exact store_Append.mono _ _ _ _
      | exact LeO.none _
      | refine LeO.ite ?_ ?_
      | refine LeO.bind ?_ (fun _ => ?_)
theorem railplanlaw41_StoreAgain.mono : ∀ a0 a1 a2 a3 k, LeO (railplanlaw41_StoreAgain.f k a0 a1 a2 a3) (railplanlaw41_StoreAgain.f (k + 1) a0 a1 a2 a3) := by
  intro a0 a1 a2 a3 k
  obtain ⟨ih0, ih1⟩ := railplanlaw41_StoreAgain.mono_l k
  unfold railplanlaw41_StoreAgain.f
  repeat' first
      | (with_reducible exact ih0 _ _ _ _ _ _)
      | (with_reducible exact ih1 _ _ _ _ _ _ _)
      | (with_reducible exact railplanlaw41_awake.mono _)
      | (with_reducible exact railplanlaw41_file.mono _ _)
      | (with_reducible exact railplanlaw41_versions.mono _ _)
      | (with_reducible exact railplanref41_Scan.mono _ _)
      | (with_reducible exact store_Append.mono _ _ _ _)
      | (with_reducible exact LeO.refl _)
      | (with_reducible exact LeO.none _)
      | (with_reducible refine LeO.ite ?_ ?_)
      | (with_reducible refine LeO.bind ?_ (fun _ => ?_))
      | exact ih0 _ _ _ _ _ _
      | exact ih1 _ _ _ _ _ _ _
      | exact railplanlaw41_awake.mono _
      | exact railplanlaw41_file.mono _ _
      | exact railplanlaw41_versions.mono _ _
      | exact railplanref41_Scan.mono _ _
      | exact store_Append.mono _ _ _ _
      | exact LeO.none _
      | refine LeO.ite ?_ ?_
      | refine LeO.bind ?_ (fun _ => ?_)
def railplanlaw41_StoreAgain.T6 : Bool × List (List Nat × List Nat) := (true, [([], []), ([0], [0]), ([], []), ([2], [2]), ([3], [3]), ([1, 4], [1, 4]), ([], []), ([6], [6]), ([5, 7], [5, 7]), ([], []), ([9, 8, 4, 0, 1, 2, 3, 4, 5, 6, 7, 8, 9], [8, 9])])
def railplanlaw41_StoreAgain.B6 : List Nat := [0, 1, 0, 4, 12, 31, 0, 64, 255, 0, 1023]
theorem railplanlaw41_StoreAgain.tab6 : rtab .any (opsOf Try.f7 6) = railplanlaw41_StoreAgain.T6 := by kernel_rfl
theorem railplanlaw41_StoreAgain.bits6 : waitsOk railplanlaw41_StoreAgain.T6.2 railplanlaw41_StoreAgain.B6 = true := by kernel_rfl
def railplanlaw41_StoreAgain.T10 : Bool × List (List Nat × List Nat) := (true, [([], []), ([], []), ([], []), ([], []), ([3], [3]), ([], []), ([4, 5], [4, 5]), ([2, 6], [2, 6]), ([1, 7], [1, 7]), ([0, 8], [0, 8]), ([], []), ([9, 10, 7], [9, 10]), ([11], [11]), ([12], [12]), ([12], [12]), ([13, 11, 0, 1, 2, 3, 4, 5, 6, 7, 8, 9, 10, 11, 12, 13], [13]), ([14, 15, 0, 1, 2, 3, 4, 5, 6, 7, 8, 9, 10, 11, 12, 13, 14, 15], [14])])
def railplanlaw41_StoreAgain.B10 : List Nat := [0, 0, 0, 0, 8, 0, 56, 124, 254, 511, 0, 2047, 4095, 8191, 8191, 16383, 65535]
theorem railplanlaw41_StoreAgain.tab10 : rtab .any (opsOf Try.f7 10) = railplanlaw41_StoreAgain.T10 := by kernel_rfl
theorem railplanlaw41_StoreAgain.bits10 : waitsOk railplanlaw41_StoreAgain.T10.2 railplanlaw41_StoreAgain.B10 = true := by kernel_rfl
set_option maxHeartbeats 8000000 in
set_option maxRecDepth 100000 in
theorem railplanlaw41_StoreAgain.calls (k : Nat) (A0 : Option Addr) (c0 : Nat) (l0 : List Int) (a1_0 : Int) (a1_1 : ByteArray) (a2 : Int) (r : Bool) (w : World) (hr0 : Kd.C (Kd.int .i64) w A0 l0.length l0) (hc0 : l0.length ≤ c0) (hr_ : Aside0 (r = true)) (h : railplanlaw41_StoreAgain.f k l0 a1_0 a1_1 a2 = some r) :
    Calls Try.prog 7 #[.slice A0 l0.length c0, .agg #[.int .i64 a1_0, .string a1_1], .int .i64 a2] w fun e w' => e = .returned (.bool r) ∧ Below w.heap.size w w' := by
  have hu23 := Try.underlying23
  have HR0 := Aside0.mk hr0
  have HC0 := Aside0.mk hc0
  clear hr0 hc0
  have HB := Aside0.mk (Below.refl w.heap.size w)
  have H : ((railplanlaw41_versions.f k l0).bind fun t330 => ((railplanlaw41_file.f k t330).bind fun t333 => ((railplanref41_Scan.f k t333).bind fun bt334 => (if (bt334.1.length : Int) > 0 then (if 0 ≤ (wrap64 ((bt334.1.length : Int) - 1)) then (if (wrap64 ((bt334.1.length : Int) - 1)) < (bt334.1.length : Int) then (railplanlaw41_StoreAgain.j0 k a2 t333 bt334.2 ((rd_T23 bt334.1 (wrap64 ((bt334.1.length : Int) - 1))).f0) a1_0 a1_1) else (none)) else (none)) else (railplanlaw41_StoreAgain.j0 k a2 t333 bt334.2 0 a1_0 a1_1))))) = some r := h
  clear h
  replace H := Option.bind_eq_some_iff.mp H
  obtain ⟨t330, A40, H⟩ := H
  replace H : ((railplanlaw41_file.f k t330).bind fun t333 => ((railplanref41_Scan.f k t333).bind fun bt334 => (if (bt334.1.length : Int) > 0 then (if 0 ≤ (wrap64 ((bt334.1.length : Int) - 1)) then (if (wrap64 ((bt334.1.length : Int) - 1)) < (bt334.1.length : Int) then (railplanlaw41_StoreAgain.j0 k a2 t333 bt334.2 ((rd_T23 bt334.1 (wrap64 ((bt334.1.length : Int) - 1))).f0) a1_0 a1_1) else (none)) else (none)) else (railplanlaw41_StoreAgain.j0 k a2 t333 bt334.2 0 a1_0 a1_1)))) = some r := H
  have A4 := Aside0.mk A40
  clear A40
  replace H := Option.bind_eq_some_iff.mp H
  obtain ⟨t333, A50, H⟩ := H
  replace H : ((railplanref41_Scan.f k t333).bind fun bt334 => (if (bt334.1.length : Int) > 0 then (if 0 ≤ (wrap64 ((bt334.1.length : Int) - 1)) then (if (wrap64 ((bt334.1.length : Int) - 1)) < (bt334.1.length : Int) then (railplanlaw41_StoreAgain.j0 k a2 t333 bt334.2 ((rd_T23 bt334.1 (wrap64 ((bt334.1.length : Int) - 1))).f0) a1_0 a1_1) else (none)) else (none)) else (railplanlaw41_StoreAgain.j0 k a2 t333 bt334.2 0 a1_0 a1_1))) = some r := H
  have A5 := Aside0.mk A50
  clear A50
  replace H := Option.bind_eq_some_iff.mp H
  obtain ⟨⟨t334, t335⟩, A60, H⟩ := H
  replace H : (if (t334.length : Int) > 0 then (if 0 ≤ (wrap64 ((t334.length : Int) - 1)) then (if (wrap64 ((t334.length : Int) - 1)) < (t334.length : Int) then (railplanlaw41_StoreAgain.j0 k a2 t333 t335 ((rd_T23 t334 (wrap64 ((t334.length : Int) - 1))).f0) a1_0 a1_1) else (none)) else (none)) else (railplanlaw41_StoreAgain.j0 k a2 t333 t335 0 a1_0 a1_1)) = some r := H
  have A6 := Aside0.mk A60
  clear A60
  have HC7 := Aside0.mk H
  clear H
  go_enter Try.func7, Try.ntmps7
  go_upto_if 26 with (first | ((with_reducible refine gate_dst (N := 4) rfl ?_); refine box_event ?hg (N := 4) ?hd (cs := #[.int .i64 a1_0, .string a1_1]) (t := 23) ?hr ?_; (case hd => rfl); (case hg => rfl); (case hr => first | (go_simp; done) | (go_simp; rfl)); intro gb329 hg w8 hbox hb; have n0_ := Aside0.mk (below_step (by repeat (first | (with_reducible first | exact HB.out | apply below_alloc | apply pw_below_drewN | apply below_drew1) | exact HB.out)) hb); have n1_ := Aside0.mk (hbox); have n2_ := Aside0.mk ((by rw [hg]; exact (below_size (by repeat (first | (with_reducible first | exact HB.out | apply below_alloc | apply pw_below_drewN | apply below_drew1) | exact HB.out))) : w.heap.size ≤ gb329)); have n3_ := Aside0.mk ((by rw [hg]; exact (below_size (by repeat (first | (with_reducible first | exact HB.out | apply below_alloc | apply pw_below_drewN | apply below_drew1) | exact HB.out))) : w.heap.size ≤ gb329)); clear HB; have HB := n0_; have BK329 := n1_; have GW329 := n2_; have GE329 := n3_; clear n0_ n1_ n2_ n3_; clear hb hbox hg) | ((with_reducible refine gate_callee (f := 17) rfl ?_); refine goesL_ (some 17) rfl rfl Try.func17 (by kernel_rfl) rfl #[.slice A0 l0.length c0] rfl (by (try simp only [List.map_toArray, List.map_cons, List.map_nil]); first | done | rfl | (simp only [List.length_drop, List.length_take]; rfl)) ?_; (with_reducible refine (railplanlaw41_versions.calls k _ _ l0 t330 _ ?side1 ?side2 A4.out).mono ?_); (case side1 => repeat (first | exact (Kd.C_below HR0.out HB.out) | (with_reducible refine Kd.C_alloc ?_ _) | (with_reducible refine Kd.C_drewN ?_ _) | (with_reducible refine Kd.C_drew ?_))); (case side2 => exact HC0.out); rintro e w9 ⟨v331, rfl, ho0, hb⟩; refine ⟨_, rfl, ?_⟩; have n0_ := Aside0.mk (Kd.R_lower (Kd.R_newB ho0 (g := gb329) (o := .cells #[.int .i64 a1_0, .string a1_1] 23 (0, 0)) (by (with_reducible repeat (first | refine blk_drewN ?_ _ | refine blk_drew ?_ | refine blk_alloc ?_ _)); exact BK329.out)) (below_size (by repeat (first | (with_reducible first | exact HB.out | apply below_alloc | apply pw_below_drewN | apply below_drew1 | refine below_set ?_ GE329.out) | exact HB.out)))); have n1_ := Aside0.mk (blk_below (g := gb329) (o := .cells #[.int .i64 a1_0, .string a1_1] 23 (0, 0)) (by (with_reducible repeat (first | refine blk_drewN ?_ _ | refine blk_drew ?_ | refine blk_alloc ?_ _)); exact BK329.out) hb); have n2_ := Aside0.mk (below_step (by repeat (first | (with_reducible first | exact HB.out | apply below_alloc | apply pw_below_drewN | apply below_drew1 | refine below_set ?_ GE329.out) | exact HB.out)) hb); clear BK329; clear HB; have HO332 := n0_; have BK329 := n1_; have HB := n2_; clear n0_ n1_ n2_; (try clear hb); (try clear hb2); (try clear hk); (try clear hi); (try clear ho0); obtain ⟨Ao10, co10, eo10⟩ := Kd.R_slice HO332.out; subst eo10) | ((with_reducible refine gate_callee (f := 16) rfl ?_); refine goesL_ (some 18) rfl rfl Try.func16 (by kernel_rfl) rfl #[.slice Ao10 t330.length co10] rfl (by (try simp only [List.map_toArray, List.map_cons, List.map_nil]); first | done | rfl | (simp only [List.length_drop, List.length_take]; rfl)) ?_; (with_reducible refine (railplanlaw41_file.calls k _ _ t330 t333 _ ?side1 ?side2 A5.out).mono ?_); (case side1 => repeat (first | exact (Kd.R_reads' HO332.out).2.2 | (with_reducible refine Kd.C_alloc ?_ _) | (with_reducible refine Kd.C_drewN ?_ _) | (with_reducible refine Kd.C_drew ?_))); (case side2 => exact (Kd.R_reads' HO332.out).2.1); rintro e w11 ⟨rfl, hb⟩; refine ⟨_, rfl, ?_⟩; have n0_ := Aside0.mk (Kd.R_below (by (with_reducible repeat (first | apply Kd.R_alloc | apply Kd.R_drewN | apply Kd.R_drew)); exact HO332.out) hb); have n1_ := Aside0.mk (blk_below (g := gb329) (o := .cells #[.int .i64 a1_0, .string a1_1] 23 (0, 0)) (by (with_reducible repeat (first | refine blk_drewN ?_ _ | refine blk_drew ?_ | refine blk_alloc ?_ _)); exact BK329.out) hb); have n2_ := Aside0.mk (below_step (by repeat (first | (with_reducible first | exact HB.out | apply below_alloc | apply pw_below_drewN | apply below_drew1 | refine below_set ?_ GE329.out) | exact HB.out)) hb); clear HO332; clear BK329; clear HB; have HO332 := n0_; have BK329 := n1_; have HB := n2_; clear n0_ n1_ n2_; (try clear hb); (try clear hb2); (try clear hk); (try clear hi)) | ((with_reducible refine gate_callee (f := 20) rfl ?_); refine goesL_ (some 21) rfl rfl Try.func20 (by kernel_rfl) rfl #[.string t333] rfl (by (try simp only [List.map_toArray, List.map_cons, List.map_nil]); first | done | rfl | (simp only [List.length_drop, List.length_take]; rfl)) ?_; (with_reducible refine (railplanref41_Scan.calls k t333 t334 t335 _ A6.out).mono ?_); rintro e w12 ⟨v336, rfl, ho0, hb⟩; refine ⟨_, rfl, ?_⟩; have n0_ := Aside0.mk (Kd.R_elder' (by (with_reducible repeat (first | apply Kd.R_alloc | apply Kd.R_drewN | apply Kd.R_drew)); exact HO332.out) (Kd.R_base ho0) hb); have n1_ := Aside0.mk (Kd.R_lower (Kd.R_newB (Kd.R_new' ho0 (Kd.R_lt (by (with_reducible repeat (first | apply Kd.R_alloc | apply Kd.R_drewN | apply Kd.R_drew)); exact HO332.out))) (g := gb329) (o := .cells #[.int .i64 a1_0, .string a1_1] 23 (0, 0)) (by (with_reducible repeat (first | refine blk_drewN ?_ _ | refine blk_drew ?_ | refine blk_alloc ?_ _)); exact BK329.out)) (below_size (by repeat (first | (with_reducible first | exact HB.out | apply below_alloc | apply pw_below_drewN | apply below_drew1 | refine below_set ?_ GE329.out) | exact HB.out)))); have n2_ := Aside0.mk (blk_below (g := gb329) (o := .cells #[.int .i64 a1_0, .string a1_1] 23 (0, 0)) (by (with_reducible repeat (first | refine blk_drewN ?_ _ | refine blk_drew ?_ | refine blk_alloc ?_ _)); exact BK329.out) hb); have n3_ := Aside0.mk (below_step (by repeat (first | (with_reducible first | exact HB.out | apply below_alloc | apply pw_below_drewN | apply below_drew1 | refine below_set ?_ GE329.out) | exact HB.out)) hb); clear HO332; clear BK329; clear HB; have HO332 := n0_; have HO337 := n1_; have BK329 := n2_; have HB := n3_; clear n0_ n1_ n2_ n3_; (try clear hb); (try clear hb2); (try clear hk); (try clear hi); (try clear ho0); obtain ⟨Ao13, co13, eo13⟩ := Kd.R_slice HO337.out; subst eo13))
  (try simp only [Act.put, List.setIfInBounds_toArray, List.set_cons_zero, List.set_cons_succ])
  go_cut [10] (fun v10 wc => ∃ (kq : Nat) (x10_6 : Int), v10 = .int .i64 x10_6 ∧ Aside0 (railplanlaw41_StoreAgain.j0 kq a2 t333 t335 x10_6 a1_0 a1_1 = some r) ∧ Aside0 (kq ≤ k) ∧ Aside0 (wc.heap[gb329]? = some (.cells #[.int .i64 a1_0, .string a1_1] 23 (0, 0))) ∧ Aside0 (Below w.heap.size w wc))
  case first =>
    have H := HC7.out
    clear HC7
    by_cases c14 : (t334.length : Int) > 0
    · rw [if_pos c14] at H
      have c14b0 : decide (0 < (t334.length : Int)) = true := decide_eq_true c14
      have c14b1 : decide (0 < t334.length) = true := decide_eq_true (by omega)
      clear c14
      (first | rw [c14b0] | (simp only [i64_w, i32_w]; rw [c14b0]) | rw [c14b1] | skip)
      obtain ⟨ji15, hji15⟩ : ∃ j_ : Int, (wrap64 ((t334.length : Int) - 1)) = j_ := ⟨_, rfl⟩
      replace H : (if 0 ≤ (ji15) then (if (ji15) < (t334.length : Int) then (railplanlaw41_StoreAgain.j0 k a2 t333 t335 ((rd_T23 t334 (ji15)).f0) a1_0 a1_1) else (none)) else (none)) = some r := by first | (rw [hji15] at H; exact H) | (simp only [hji15] at H ⊢; exact H)
      have hji15w : (IntKind.i64.wrap ((t334.length : Int) - 1)) = ji15 := (i64_w _).trans hji15
      by_cases c16 : 0 ≤ (ji15)
      · rw [if_pos c16] at H
        have c16b0 : decide (0 ≤ (ji15)) = true := decide_eq_true c16
        clear c16
        by_cases c17 : (ji15) < (t334.length : Int)
        · rw [if_pos c17] at H
          have c17b0 : decide ((ji15) < (t334.length : Int)) = true := decide_eq_true c17
          clear c17
          have H' := Aside0.mk H
          clear H
          have p338 : 0 ≤ ((ji15) : Int) := of_decide_eq_true (by first | (with_reducible assumption) | assumption)
          have q338 : (ji15) < (t334.length : Int) := of_decide_eq_true (by first | (with_reducible assumption) | assumption)
          obtain ⟨ad338, e338, hx338_0, hx338_1⟩ := at_T23 (Kd.R_reads' HO337.out).2.2 (ji15) p338 q338
          cases e338
          replace p338 := eq_true p338
          replace q338 := eq_true q338
          go_wp2
          go_meet
          case rel => exact ⟨_, ((rd_T23 t334 (ji15)).f0), (by first | rfl | (simp; done) | (simp only [← hji15] <;> (first | rfl | simp)) | (simp [*]; done)), H', ⟨by first | omega | exact Nat.le_refl _⟩, ⟨by (with_reducible repeat (first | refine blk_drewN ?_ _ | refine blk_drew ?_ | refine blk_alloc ?_ _)); exact BK329.out⟩, ⟨by repeat (first | (with_reducible first | exact HB.out | apply below_alloc | apply pw_below_drewN | apply below_drew1 | refine below_set ?_ GE329.out) | exact HB.out)⟩⟩
        · rw [if_neg c17] at H
          exact absurd H (by simp)
      · rw [if_neg c16] at H
        exact absurd H (by simp)
    · rw [if_neg c14] at H
      have c14b0 : decide (0 < (t334.length : Int)) = false := decide_eq_false c14
      have c14b1 : decide (0 < t334.length) = false := decide_eq_false (by omega)
      clear c14
      (first | rw [c14b0] | (simp only [i64_w, i32_w]; rw [c14b0]) | rw [c14b1] | skip)
      have H' := Aside0.mk H
      clear H
      go_wp2
      go_meet
      case rel => exact ⟨_, (0), (by first | rfl | (simp; done) | (simp [*]; done)), H', ⟨by first | omega | exact Nat.le_refl _⟩, ⟨by (with_reducible repeat (first | refine blk_drewN ?_ _ | refine blk_drew ?_ | refine blk_alloc ?_ _)); exact BK329.out⟩, ⟨by repeat (first | (with_reducible first | exact HB.out | apply below_alloc | apply pw_below_drewN | apply below_drew1 | refine below_set ?_ GE329.out) | exact HB.out)⟩⟩
  case rest =>
    clear HC7
    try clear c1
    try clear c2
    try clear p2
    try clear p3
    try clear q3
    try clear hx3
    try clear p6
    try clear c7
    try clear c14
    try clear c14b0
    try clear c14b1
    try clear c16
    try clear c16b0
    try clear c17
    try clear c17b0
    try clear hx338_0
    try clear hx338_1
    try clear p338
    try clear q338
    obtain ⟨kq, x10_6, rfl, HA, HJ6, BK329, HB⟩ := hcut
    cases kq with
    | zero => exact absurd HA.out (by simp [railplanlaw41_StoreAgain.j0])
    | succ kj6 =>
      have H := HA.out
      clear HA
      simp only [railplanlaw41_StoreAgain.j0] at H
      replace H := Option.bind_eq_some_iff.mp H
      obtain ⟨t339, A180, H⟩ := H
      replace H : ((store_Append.f kj6 t333 (wrap64 ((wrap64 (x10_6 + 1)) + t339)) a1_1).bind fun bt341 => (if (a1_1.size : Int) > 65536 then (railplanlaw41_StoreAgain.j1 kj6 a2 t335 bt341.1 bt341.2 true (wrap64 ((wrap64 (x10_6 + 1)) + t339)) a1_1) else (if bt341.2 = 0 then (railplanlaw41_StoreAgain.j1 kj6 a2 t335 bt341.1 bt341.2 (decide ((bt341.1.size : Int) ≤ t335)) (wrap64 ((wrap64 (x10_6 + 1)) + t339)) a1_1) else (railplanlaw41_StoreAgain.j1 kj6 a2 t335 bt341.1 bt341.2 true (wrap64 ((wrap64 (x10_6 + 1)) + t339)) a1_1)))) = some r := H
      have A18 := Aside0.mk A180
      clear A180
      replace H := Option.bind_eq_some_iff.mp H
      obtain ⟨⟨t341, t342⟩, A190, H⟩ := H
      replace H : (if (a1_1.size : Int) > 65536 then (railplanlaw41_StoreAgain.j1 kj6 a2 t335 t341 t342 true (wrap64 ((wrap64 (x10_6 + 1)) + t339)) a1_1) else (if t342 = 0 then (railplanlaw41_StoreAgain.j1 kj6 a2 t335 t341 t342 (decide ((t341.size : Int) ≤ t335)) (wrap64 ((wrap64 (x10_6 + 1)) + t339)) a1_1) else (railplanlaw41_StoreAgain.j1 kj6 a2 t335 t341 t342 true (wrap64 ((wrap64 (x10_6 + 1)) + t339)) a1_1))) = some r := H
      have A19 := Aside0.mk A190
      clear A190
      have HC20 := Aside0.mk H
      clear H
      try go_wp2
      have n0_ := Aside0.mk (blk_drew BK329.out)
      have n1_ := Aside0.mk (below_drew1 HB.out)
      clear BK329
      clear HB
      have BK329 := n0_
      have HB := n1_
      clear n0_ n1_
      refine start_ (n := 11) (S := fun w' => w'.cell? ⟨gb329, 0, none⟩ = some (.int .i64 a1_0) ∧ w'.cell? ⟨gb329, 1, none⟩ = some (.string a1_1)) (ds := []) #[false, false, false, false, false, false, false, false, false, false, false] (by kernel_rfl) rfl rfl ⟨(blk_cell BK329.out 0).trans rfl, (blk_cell BK329.out 1).trans rfl⟩ (fun hHeld => ?_); refine with_tabW railplanlaw41_StoreAgain.tab6 railplanlaw41_StoreAgain.bits6 (fun HT_ HW_ => ?_)
      generalize wc.drew = w21 at BK329 HB hHeld ⊢
      refine pure_ (i := 0) (N := some 34) (v := ?_) (a' := ?_) #[true, false, false, false, false, false, false, false, false, false, false] rfl rfl (any_of HT_.out (by kernel_rfl)) (fun _ _ _ h => h) (Or.inl ⟨by rfl, ?_⟩) ?_ ?_
      rotate_left
      · intro w'
        go_simp
        with_reducible rfl
      rotate_left
      · simp only [Act.put, List.setIfInBounds_toArray, List.set_cons_zero, List.set_cons_succ, i64_w, i32_w]
        rfl
      refine pure_ (i := 1) (N := some 35) (v := ?_) (a' := ?_) #[true, true, false, false, false, false, false, false, false, false, false] rfl rfl (any_of HT_.out (by kernel_rfl)) (fun _ _ _ h => h) (Or.inl ⟨by rfl, ?_⟩) ?_ ?_
      rotate_left
      · intro w'
        go_simp
        with_reducible rfl
      rotate_left
      · simp only [Act.put, List.setIfInBounds_toArray, List.set_cons_zero, List.set_cons_succ, i64_w, i32_w]
        rfl
      refine pure_ (i := 2) (N := some 36) (v := ?_) (a' := ?_) #[true, true, true, false, false, false, false, false, false, false, false] rfl rfl (any_of HT_.out (by kernel_rfl)) (fun _ _ _ h => h) (Or.inl ⟨by rfl, ?_⟩) ?_ ?_
      rotate_left
      · intro w'
        go_simp
        with_reducible rfl
      rotate_left
      · simp only [Act.put, List.setIfInBounds_toArray, List.set_cons_zero, List.set_cons_succ, i64_w, i32_w]
        rfl
      refine pure_ (i := 6) (N := some 40) (v := ?_) (a' := ?_) #[true, true, true, false, false, false, true, false, false, false, false] rfl rfl (any_of HT_.out (by kernel_rfl)) (fun _ _ _ h => h) (Or.inl ⟨by rfl, ?_⟩) ?_ ?_
      rotate_left
      · intro w'
        go_simp
        with_reducible rfl
      rotate_left
      · simp only [Act.put, List.setIfInBounds_toArray, List.set_cons_zero, List.set_cons_succ, i64_w, i32_w]
        rfl
      refine take_ (i := 3) (N := some 37) (v := ?_) (a' := ?_) #[true, true, true, true, false, false, true, false, false, false, false] rfl rfl (take_ofW HT_.out HW_.out (by kernel_rfl)) (fun _ _ _ h => h) (Or.inl ⟨by rfl, ?_⟩) hHeld ?_ ?_
      rotate_left
      · rintro w' ⟨s0, s1⟩
        go_simp
        with_reducible rfl
      rotate_left
      · simp only [Act.put, List.setIfInBounds_toArray, List.set_cons_zero, List.set_cons_succ, i64_w, i32_w]
        rfl
      refine take_ (i := 7) (N := some 41) (v := ?_) (a' := ?_) #[true, true, true, true, false, false, true, true, false, false, false] rfl rfl (take_ofW HT_.out HW_.out (by kernel_rfl)) (fun _ _ _ h => h) (Or.inl ⟨by rfl, ?_⟩) hHeld ?_ ?_
      rotate_left
      · rintro w' ⟨s0, s1⟩
        go_simp
        with_reducible rfl
      rotate_left
      · simp only [Act.put, List.setIfInBounds_toArray, List.set_cons_zero, List.set_cons_succ, i64_w, i32_w]
        rfl
      refine join_ (σ := Nat) 1 #[true, true, true, true, true, true, true, true, true, true, false] (fun s_ => [(38, .int .i64 t339), (11, .pointer (some ⟨s_, 0, none⟩)), (39, .int .i64 (wrap64 ((wrap64 (x10_6 + 1)) + t339))), (42, .agg #[.int .i64 (wrap64 ((wrap64 (x10_6 + 1)) + t339)), .string a1_1])]) (fun s_ w' => (w'.cell? ⟨gb329, 0, none⟩ = some (.int .i64 a1_0) ∧ w'.cell? ⟨gb329, 1, none⟩ = some (.string a1_1)) ∧ (w'.heap[gb329]? = some (.cells #[.int .i64 a1_0, .string a1_1] 23 (0, 0))) ∧ (w'.heap[s_]? = some (.cells #[.int .i64 0, .string (⟨#[]⟩ : ByteArray)] 23 (0, 0))) ∧ (w.heap.size ≤ s_) ∧ (w.heap.size ≤ s_) ∧ (gb329 ≠ s_) ∧ (s_ ≠ gb329) ∧ (Below w.heap.size w w')) ?_ ?_
      rotate_left
      · intro hCont
        refine two_ (i := 4) (j := 9) (Ni := some 38) (Nj := some 11) #[true, true, true, true, true, false, true, true, false, false, false] #[true, true, true, true, false, false, true, true, false, true, false] rfl rfl rfl rfl (two_of HT_.out (by kernel_rfl)) (by decide) (by decide) (fun K hK => ?_) (fun K hK => ?_)
        · skip
          refine goes_ Try.func14 (by kernel_rfl) rfl #[.int .i64 a1_0, .int .i64 5] (by rfl) rfl rfl (by (try simp only [List.map_toArray, List.map_cons, List.map_nil]); first | done | rfl | (simp only [List.length_drop, List.length_take]; rfl)) ?_
          with_reducible refine (railplankeep_Pick.calls a1_0 5 t339 _ A18.out).mono ?_
          rintro e w' ⟨rfl, ⟨nd, rfl⟩⟩
          refine ⟨_, rfl, ?_⟩
          refine hK.out _ _ ⟨(blk_cell BK329.out 0).trans rfl, (blk_cell BK329.out 1).trans rfl⟩ (fun hHeld => ?_)
          clear hK K
          refine norm_ (a' := ?_) ?_ ?_
          rotate_left
          · show Act.put _ (some 38) _ = _
            simp only [Act.put, List.setIfInBounds_toArray, List.set_cons_zero, List.set_cons_succ, i64_w, i32_w]
            rfl
          refine pure_ (i := 5) (N := some 39) (v := ?_) (a' := ?_) #[true, true, true, true, true, true, true, true, false, false, false] rfl rfl (any_of HT_.out (by kernel_rfl)) (fun _ _ _ h => h) (Or.inl ⟨by rfl, ?_⟩) ?_ ?_
          rotate_left
          · intro w'
            go_simp
            with_reducible rfl
          rotate_left
          · simp only [Act.put, List.setIfInBounds_toArray, List.set_cons_zero, List.set_cons_succ, i64_w, i32_w]
            rfl
          refine pure_ (i := 8) (N := some 42) (v := ?_) (a' := ?_) #[true, true, true, true, true, true, true, true, true, false, false] rfl rfl (any_of HT_.out (by kernel_rfl)) (fun _ _ _ h => h) (Or.inl ⟨by rfl, ?_⟩) ?_ ?_
          rotate_left
          · intro w'
            go_simp
            with_reducible rfl
          rotate_left
          · simp only [Act.put, List.setIfInBounds_toArray, List.set_cons_zero, List.set_cons_succ, i64_w, i32_w]
            rfl
          refine one_ (i := 9) (N := some 11) #[true, true, true, true, true, true, true, true, true, true, false] rfl rfl (one_of HT_.out (by kernel_rfl)) (by decide) (fun K hK => ?_)
          refine box_step ?hg (N := 11) ?hd (cs := #[.int .i64 0, .string (⟨#[]⟩ : ByteArray)]) (t := 23) ?hr ?_; (case hd => rfl); (case hg => rfl); (case hr => first | (go_simp; done) | (go_simp; rfl))
          intro gb340 hg w22 hbox hb
          have n0_ := Aside0.mk (blk_below (g := gb329) (o := .cells #[.int .i64 a1_0, .string a1_1] 23 (0, 0)) (by (with_reducible repeat (first | refine blk_drewN ?_ _ | refine blk_drew ?_ | refine blk_alloc ?_ _)); exact BK329.out) hb)
          have n1_ := Aside0.mk (below_step (by repeat (first | (with_reducible first | exact HB.out | apply below_alloc | apply pw_below_drewN | apply below_drew1 | refine below_set ?_ GE329.out) | exact HB.out)) hb)
          have n2_ := Aside0.mk (hbox)
          have n3_ := Aside0.mk ((by rw [hg]; exact (below_size (by repeat (first | (with_reducible first | exact HB.out | apply below_alloc | apply pw_below_drewN | apply below_drew1 | refine below_set ?_ GE329.out) | exact HB.out))) : w.heap.size ≤ gb340))
          have n4_ := Aside0.mk ((by rw [hg]; exact (below_size (by repeat (first | (with_reducible first | exact HB.out | apply below_alloc | apply pw_below_drewN | apply below_drew1 | refine below_set ?_ GE329.out) | exact HB.out))) : w.heap.size ≤ gb340))
          have n5_ := Aside0.mk ((by rw [hg]; exact Nat.ne_of_lt (blk_lt (g := gb329) (o := .cells #[.int .i64 a1_0, .string a1_1] 23 (0, 0)) (by (with_reducible repeat (first | refine blk_drewN ?_ _ | refine blk_drew ?_ | refine blk_alloc ?_ _)); exact BK329.out)) : gb329 ≠ gb340))
          have n6_ := Aside0.mk ((by rw [hg]; exact Nat.ne_of_gt (blk_lt (g := gb329) (o := .cells #[.int .i64 a1_0, .string a1_1] 23 (0, 0)) (by (with_reducible repeat (first | refine blk_drewN ?_ _ | refine blk_drew ?_ | refine blk_alloc ?_ _)); exact BK329.out)) : gb340 ≠ gb329))
          clear BK329
          clear HB
          have BK329 := n0_
          have HB := n1_
          have BK340 := n2_
          have GW340 := n3_
          have GE340 := n4_
          have NB329_340 := n5_
          have NB340_329 := n6_
          clear n0_ n1_ n2_ n3_ n4_ n5_ n6_
          clear hb hbox hg
          refine hK.out _ _ ⟨(blk_cell BK329.out 0).trans rfl, (blk_cell BK329.out 1).trans rfl⟩ (fun hHeld => ?_)
          clear hK K
          refine norm_ (a' := ?_) ?_ ?_
          rotate_left
          · show Act.put _ (some 11) _ = _
            simp only [Act.put, List.setIfInBounds_toArray, List.set_cons_zero, List.set_cons_succ, i64_w, i32_w]
            rfl
          exact norm_ (by simp only [putAll, Act.put, List.setIfInBounds_toArray, List.set_cons_zero, List.set_cons_succ]) (hCont (gb340) _ ⟨hHeld, (by (with_reducible repeat (first | refine blk_drewN ?_ _ | refine blk_drew ?_ | refine blk_alloc ?_ _)); exact BK329.out), (by (with_reducible repeat (first | refine blk_drewN ?_ _ | refine blk_drew ?_ | refine blk_alloc ?_ _)); exact BK340.out), GW340.out, GE340.out, NB329_340.out, NB340_329.out, (by repeat (first | (with_reducible first | exact HB.out | apply below_alloc | apply pw_below_drewN | apply below_drew1 | refine below_set ?_ GE329.out | refine below_set ?_ GE340.out) | exact HB.out))⟩)
        · skip
          refine box_step ?hg (N := 11) ?hd (cs := #[.int .i64 0, .string (⟨#[]⟩ : ByteArray)]) (t := 23) ?hr ?_; (case hd => rfl); (case hg => rfl); (case hr => first | (go_simp; done) | (go_simp; rfl))
          intro gb340 hg w22 hbox hb
          have n0_ := Aside0.mk (blk_below (g := gb329) (o := .cells #[.int .i64 a1_0, .string a1_1] 23 (0, 0)) (by (with_reducible repeat (first | refine blk_drewN ?_ _ | refine blk_drew ?_ | refine blk_alloc ?_ _)); exact BK329.out) hb)
          have n1_ := Aside0.mk (below_step (by repeat (first | (with_reducible first | exact HB.out | apply below_alloc | apply pw_below_drewN | apply below_drew1 | refine below_set ?_ GE329.out) | exact HB.out)) hb)
          have n2_ := Aside0.mk (hbox)
          have n3_ := Aside0.mk ((by rw [hg]; exact (below_size (by repeat (first | (with_reducible first | exact HB.out | apply below_alloc | apply pw_below_drewN | apply below_drew1 | refine below_set ?_ GE329.out) | exact HB.out))) : w.heap.size ≤ gb340))
          have n4_ := Aside0.mk ((by rw [hg]; exact (below_size (by repeat (first | (with_reducible first | exact HB.out | apply below_alloc | apply pw_below_drewN | apply below_drew1 | refine below_set ?_ GE329.out) | exact HB.out))) : w.heap.size ≤ gb340))
          have n5_ := Aside0.mk ((by rw [hg]; exact Nat.ne_of_lt (blk_lt (g := gb329) (o := .cells #[.int .i64 a1_0, .string a1_1] 23 (0, 0)) (by (with_reducible repeat (first | refine blk_drewN ?_ _ | refine blk_drew ?_ | refine blk_alloc ?_ _)); exact BK329.out)) : gb329 ≠ gb340))
          have n6_ := Aside0.mk ((by rw [hg]; exact Nat.ne_of_gt (blk_lt (g := gb329) (o := .cells #[.int .i64 a1_0, .string a1_1] 23 (0, 0)) (by (with_reducible repeat (first | refine blk_drewN ?_ _ | refine blk_drew ?_ | refine blk_alloc ?_ _)); exact BK329.out)) : gb340 ≠ gb329))
          clear BK329
          clear HB
          have BK329 := n0_
          have HB := n1_
          have BK340 := n2_
          have GW340 := n3_
          have GE340 := n4_
          have NB329_340 := n5_
          have NB340_329 := n6_
          clear n0_ n1_ n2_ n3_ n4_ n5_ n6_
          clear hb hbox hg
          refine hK.out _ _ ⟨(blk_cell BK329.out 0).trans rfl, (blk_cell BK329.out 1).trans rfl⟩ (fun hHeld => ?_)
          clear hK K
          refine norm_ (a' := ?_) ?_ ?_
          rotate_left
          · show Act.put _ (some 11) _ = _
            simp only [Act.put, List.setIfInBounds_toArray, List.set_cons_zero, List.set_cons_succ, i64_w, i32_w]
            rfl
          refine one_ (i := 4) (N := some 38) #[true, true, true, true, true, false, true, true, false, true, false] rfl rfl (one_of HT_.out (by kernel_rfl)) (by decide) (fun K hK => ?_)
          refine goes_ Try.func14 (by kernel_rfl) rfl #[.int .i64 a1_0, .int .i64 5] (by rfl) rfl rfl (by (try simp only [List.map_toArray, List.map_cons, List.map_nil]); first | done | rfl | (simp only [List.length_drop, List.length_take]; rfl)) ?_
          with_reducible refine (railplankeep_Pick.calls a1_0 5 t339 _ A18.out).mono ?_
          rintro e w' ⟨rfl, ⟨nd, rfl⟩⟩
          refine ⟨_, rfl, ?_⟩
          refine hK.out _ _ ⟨(blk_cell BK329.out 0).trans rfl, (blk_cell BK329.out 1).trans rfl⟩ (fun hHeld => ?_)
          clear hK K
          refine norm_ (a' := ?_) ?_ ?_
          rotate_left
          · show Act.put _ (some 38) _ = _
            simp only [Act.put, List.setIfInBounds_toArray, List.set_cons_zero, List.set_cons_succ, i64_w, i32_w]
            rfl
          refine pure_ (i := 5) (N := some 39) (v := ?_) (a' := ?_) #[true, true, true, true, true, true, true, true, false, true, false] rfl rfl (any_of HT_.out (by kernel_rfl)) (fun _ _ _ h => h) (Or.inl ⟨by rfl, ?_⟩) ?_ ?_
          rotate_left
          · intro w'
            go_simp
            with_reducible rfl
          rotate_left
          · simp only [Act.put, List.setIfInBounds_toArray, List.set_cons_zero, List.set_cons_succ, i64_w, i32_w]
            rfl
          refine pure_ (i := 8) (N := some 42) (v := ?_) (a' := ?_) #[true, true, true, true, true, true, true, true, true, true, false] rfl rfl (any_of HT_.out (by kernel_rfl)) (fun _ _ _ h => h) (Or.inl ⟨by rfl, ?_⟩) ?_ ?_
          rotate_left
          · intro w'
            go_simp
            with_reducible rfl
          rotate_left
          · simp only [Act.put, List.setIfInBounds_toArray, List.set_cons_zero, List.set_cons_succ, i64_w, i32_w]
            rfl
          exact norm_ (by simp only [putAll, Act.put, List.setIfInBounds_toArray, List.set_cons_zero, List.set_cons_succ]) (hCont (gb340) _ ⟨hHeld, (by (with_reducible repeat (first | refine blk_drewN ?_ _ | refine blk_drew ?_ | refine blk_alloc ?_ _)); exact BK329.out), (by (with_reducible repeat (first | refine blk_drewN ?_ _ | refine blk_drew ?_ | refine blk_alloc ?_ _)); exact BK340.out), GW340.out, GE340.out, NB329_340.out, NB340_329.out, (by repeat (first | (with_reducible first | exact HB.out | apply below_alloc | apply pw_below_drewN | apply below_drew1 | refine below_set ?_ GE329.out | refine below_set ?_ GE340.out) | exact HB.out))⟩)
      rintro gb340 w23 ⟨hS_, h0_, h1_, h2_, h3_, h4_, h5_, h6_⟩
      have n0_ : Aside0 (w23.heap[gb329]? = some (.cells #[.int .i64 a1_0, .string a1_1] 23 (0, 0))) := ⟨h0_⟩
      have n1_ : Aside0 (w23.heap[gb340]? = some (.cells #[.int .i64 0, .string (⟨#[]⟩ : ByteArray)] 23 (0, 0))) := ⟨h1_⟩
      have n2_ : Aside0 (w.heap.size ≤ gb340) := ⟨h2_⟩
      have n3_ : Aside0 (w.heap.size ≤ gb340) := ⟨h3_⟩
      have n4_ : Aside0 (gb329 ≠ gb340) := ⟨h4_⟩
      have n5_ : Aside0 (gb340 ≠ gb329) := ⟨h5_⟩
      have n6_ : Aside0 (Below w.heap.size w w23) := ⟨h6_⟩
      clear BK329
      clear HB
      clear h0_ h1_ h2_ h3_ h4_ h5_ h6_
      have BK329 := n0_
      have BK340 := n1_
      have GW340 := n2_
      have GE340 := n3_
      have NB329_340 := n4_
      have NB340_329 := n5_
      have HB := n6_
      clear n0_ n1_ n2_ n3_ n4_ n5_ n6_
      have hHeld : w23.cell? ⟨gb329, 0, none⟩ = some (.int .i64 a1_0) ∧ w23.cell? ⟨gb329, 1, none⟩ = some (.string a1_1) := hS_
      refine norm_ (a' := ?_) ?_ ?_
      rotate_left
      · simp only [putAll, Act.put, List.setIfInBounds_toArray, List.set_cons_zero, List.set_cons_succ]
        rfl
      refine one_ (i := 10) (N := none) #[true, true, true, true, true, true, true, true, true, true, true] rfl rfl (one_of HT_.out (by kernel_rfl)) (by decide) (fun K hK => ?_)
      have hs24 : w23.cell? ⟨gb340, 0, none⟩ = some (.int .i64 0) := (blk_cell BK340.out 0).trans rfl
      have hfs24 := blk_frozen BK340.out 0
      have hns24_0 := NB329_340.out
      have hms24_0 := NB340_329.out
      have hs25 : w23.cell? ⟨gb340, 1, none⟩ = some (.string (⟨#[]⟩ : ByteArray)) := (blk_cell BK340.out 1).trans rfl
      have hfs25 := blk_frozen BK340.out 1
      have hns25_0 := NB329_340.out
      have hms25_0 := NB340_329.out
      refine skip_ (w1 := ?_) (by rfl) rfl ?_ ?_
      rotate_left
      · go_simp
        rfl
      refine hK.out _ _ ⟨((cell_far (p := ⟨gb340, _, none⟩) NB329_340.out _).trans (((cell_far (p := ⟨gb340, _, none⟩) NB329_340.out _).trans (hHeld.1)))), ((cell_far (p := ⟨gb340, _, none⟩) NB329_340.out _).trans (((cell_far (p := ⟨gb340, _, none⟩) NB329_340.out _).trans (hHeld.2))))⟩ (fun hHeld => ?_)
      clear hK K
      refine done_ (done_of HT_.out (by kernel_rfl)) ?_
      have hnb26 := NB340_329.out
      have hnc26 := NB329_340.out
      have hcz27_0 : w23.cell? ⟨gb340, 0, none⟩ = some (.int .i64 0) := (blk_cell BK340.out 0).trans rfl
      have hcz27_1 : w23.cell? ⟨gb340, 1, none⟩ = some (.string (⟨#[]⟩ : ByteArray)) := (blk_cell BK340.out 1).trans rfl
      have hfz27_0 := blk_frozen BK340.out 0
      have hfz27_1 := blk_frozen BK340.out 1
      go_upto_region 8 with (first | ((with_reducible refine gate_callee (f := 22) rfl ?_); refine goesL_ (some 46) rfl rfl Try.func22 (by kernel_rfl) rfl #[.string t333, .agg #[.int .i64 (wrap64 ((wrap64 (x10_6 + 1)) + t339)), .string a1_1]] rfl (by (try simp only [List.map_toArray, List.map_cons, List.map_nil]); first | done | rfl | (simp only [List.length_drop, List.length_take]; rfl)) ?_; (with_reducible refine (store_Append.calls kj6 t333 (wrap64 ((wrap64 (x10_6 + 1)) + t339)) a1_1 t341 t342 _ A19.out).mono ?_); rintro e w28 ⟨rfl, hb⟩; refine ⟨_, rfl, ?_⟩; have n0_ := Aside0.mk (blk_below (g := gb329) (o := .cells #[.int .i64 a1_0, .string a1_1] 23 (0, 0)) (by (with_reducible repeat (first | refine blk_drewN ?_ _ | refine blk_drew ?_ | refine blk_alloc ?_ _)); refine blk_far ?_ NB329_340.out _; (with_reducible repeat (first | refine blk_drewN ?_ _ | refine blk_drew ?_ | refine blk_alloc ?_ _)); refine blk_far ?_ NB329_340.out _; (with_reducible repeat (first | refine blk_drewN ?_ _ | refine blk_drew ?_ | refine blk_alloc ?_ _)); exact BK329.out) hb); have n1_ := Aside0.mk (blk_below (g := gb340) (o := .cells #[.int .i64 (wrap64 ((wrap64 (x10_6 + 1)) + t339)), .string a1_1] 23 (0, 0)) (by (with_reducible repeat (first | refine blk_drewN ?_ _ | refine blk_drew ?_ | refine blk_alloc ?_ _)); refine blk_put (cs := #[.int .i64 (wrap64 ((wrap64 (x10_6 + 1)) + t339)), .string (⟨#[]⟩ : ByteArray)]) ?_ 1 _ rfl; (with_reducible repeat (first | refine blk_drewN ?_ _ | refine blk_drew ?_ | refine blk_alloc ?_ _)); refine blk_put (cs := #[.int .i64 0, .string (⟨#[]⟩ : ByteArray)]) ?_ 0 _ rfl; (with_reducible repeat (first | refine blk_drewN ?_ _ | refine blk_drew ?_ | refine blk_alloc ?_ _)); exact BK340.out) hb); have n2_ := Aside0.mk (below_step (by repeat (first | (with_reducible first | exact HB.out | apply below_alloc | apply pw_below_drewN | apply below_drew1 | refine below_set ?_ GE329.out | refine below_set ?_ GE340.out) | exact HB.out)) hb); clear BK329; clear BK340; clear HB; have BK329 := n0_; have BK340 := n1_; have HB := n2_; clear n0_ n1_ n2_; (try clear hb); (try clear hb2); (try clear hk); (try clear hi)))
      (try simp only [Act.put, List.setIfInBounds_toArray, List.set_cons_zero, List.set_cons_succ])
      go_cut [62] (fun v62 wc => ∃ (kq : Nat) (x62_19 : Bool), v62 = .bool x62_19 ∧ Aside0 (railplanlaw41_StoreAgain.j1 kq a2 t335 t341 t342 x62_19 (wrap64 ((wrap64 (x10_6 + 1)) + t339)) a1_1 = some r) ∧ Aside0 (kq ≤ kj6) ∧ Aside0 (wc.heap[gb329]? = some (.cells #[.int .i64 a1_0, .string a1_1] 23 (0, 0))) ∧ Aside0 (wc.heap[gb340]? = some (.cells #[.int .i64 (wrap64 ((wrap64 (x10_6 + 1)) + t339)), .string a1_1] 23 (0, 0))) ∧ Aside0 (Below w.heap.size w wc))
      case first =>
        have H := HC20.out
        clear HC20
        by_cases c29 : (a1_1.size : Int) > 65536
        · rw [if_pos c29] at H
          have c29b0 : decide (65536 < (a1_1.size : Int)) = true := decide_eq_true c29
          have c29b1 : decide (65536 < a1_1.size) = true := decide_eq_true (by omega)
          clear c29
          (first | rw [c29b0] | (simp only [i64_w, i32_w]; rw [c29b0]) | rw [c29b1] | skip)
          have H' := Aside0.mk H
          clear H
          have hnb30 := NB340_329.out
          have hnc30 := NB329_340.out
          have hcz31_0 : w28.cell? ⟨gb340, 0, none⟩ = some (.int .i64 (wrap64 ((wrap64 (x10_6 + 1)) + t339))) := (blk_cell BK340.out 0).trans rfl
          have hcz31_1 : w28.cell? ⟨gb340, 1, none⟩ = some (.string a1_1) := (blk_cell BK340.out 1).trans rfl
          have hfz31_0 := blk_frozen BK340.out 0
          have hfz31_1 := blk_frozen BK340.out 1
          go_wp2
          go_meet
          case rel => exact ⟨_, (true), (by first | rfl | (simp; done) | (simp [*]; done)), H', ⟨by have := HJ6.out; first | omega | exact Nat.le_refl _⟩, ⟨by (with_reducible repeat (first | refine blk_drewN ?_ _ | refine blk_drew ?_ | refine blk_alloc ?_ _)); exact BK329.out⟩, ⟨by (with_reducible repeat (first | refine blk_drewN ?_ _ | refine blk_drew ?_ | refine blk_alloc ?_ _)); exact BK340.out⟩, ⟨by repeat (first | (with_reducible first | exact HB.out | apply below_alloc | apply pw_below_drewN | apply below_drew1 | refine below_set ?_ GE329.out | refine below_set ?_ GE340.out) | exact HB.out)⟩⟩
        · rw [if_neg c29] at H
          have c29b0 : decide (65536 < (a1_1.size : Int)) = false := decide_eq_false c29
          have c29b1 : decide (65536 < a1_1.size) = false := decide_eq_false (by omega)
          clear c29
          (first | rw [c29b0] | (simp only [i64_w, i32_w]; rw [c29b0]) | rw [c29b1] | skip)
          by_cases c32 : t342 = 0
          · rw [if_pos c32] at H
            have c32b0 : (t342 == 0) = true := beq_iff_eq.mpr c32
            have c32b1 : (t342 != 0) = false := bne_eq_false_iff_eq.mpr c32
            clear c32
            have H' := Aside0.mk H
            clear H
            have hnb33 := NB340_329.out
            have hnc33 := NB329_340.out
            have hcz34_0 : w28.cell? ⟨gb340, 0, none⟩ = some (.int .i64 (wrap64 ((wrap64 (x10_6 + 1)) + t339))) := (blk_cell BK340.out 0).trans rfl
            have hcz34_1 : w28.cell? ⟨gb340, 1, none⟩ = some (.string a1_1) := (blk_cell BK340.out 1).trans rfl
            have hfz34_0 := blk_frozen BK340.out 0
            have hfz34_1 := blk_frozen BK340.out 1
            go_wp2
            go_meet
            case rel => exact ⟨_, (decide ((t341.size : Int) ≤ t335)), (by first | rfl | (simp; done) | (simp [*]; done)), H', ⟨by have := HJ6.out; first | omega | exact Nat.le_refl _⟩, ⟨by (with_reducible repeat (first | refine blk_drewN ?_ _ | refine blk_drew ?_ | refine blk_alloc ?_ _)); exact BK329.out⟩, ⟨by (with_reducible repeat (first | refine blk_drewN ?_ _ | refine blk_drew ?_ | refine blk_alloc ?_ _)); exact BK340.out⟩, ⟨by repeat (first | (with_reducible first | exact HB.out | apply below_alloc | apply pw_below_drewN | apply below_drew1 | refine below_set ?_ GE329.out | refine below_set ?_ GE340.out) | exact HB.out)⟩⟩
          · rw [if_neg c32] at H
            have c32b0 : (t342 == 0) = false := beq_eq_false_iff_ne.mpr c32
            have c32b1 : (t342 != 0) = true := bne_iff_ne.mpr c32
            have H' := Aside0.mk H
            clear H
            have hnb35 := NB340_329.out
            have hnc35 := NB329_340.out
            have hcz36_0 : w28.cell? ⟨gb340, 0, none⟩ = some (.int .i64 (wrap64 ((wrap64 (x10_6 + 1)) + t339))) := (blk_cell BK340.out 0).trans rfl
            have hcz36_1 : w28.cell? ⟨gb340, 1, none⟩ = some (.string a1_1) := (blk_cell BK340.out 1).trans rfl
            have hfz36_0 := blk_frozen BK340.out 0
            have hfz36_1 := blk_frozen BK340.out 1
            go_wp2
            go_meet
            case rel => exact ⟨_, (true), (by first | rfl | (simp; done) | (simp [*]; done)), H', ⟨by have := HJ6.out; first | omega | exact Nat.le_refl _⟩, ⟨by (with_reducible repeat (first | refine blk_drewN ?_ _ | refine blk_drew ?_ | refine blk_alloc ?_ _)); exact BK329.out⟩, ⟨by (with_reducible repeat (first | refine blk_drewN ?_ _ | refine blk_drew ?_ | refine blk_alloc ?_ _)); exact BK340.out⟩, ⟨by repeat (first | (with_reducible first | exact HB.out | apply below_alloc | apply pw_below_drewN | apply below_drew1 | refine below_set ?_ GE329.out | refine below_set ?_ GE340.out) | exact HB.out)⟩⟩
      case rest =>
        clear HC20
        try clear c1
        try clear c2
        try clear p2
        try clear c3
        try clear p3
        try clear q3
        try clear hx3
        try clear p6
        try clear c7
        try clear c14
        try clear c14b0
        try clear c14b1
        try clear c16
        try clear c16b0
        try clear c17
        try clear c17b0
        try clear c20
        try clear c22
        try clear c26
        try clear c29
        try clear c29b0
        try clear c29b1
        try clear c30
        try clear c32
        try clear c32b0
        try clear c32b1
        try clear c33
        try clear p33
        try clear q33
        try clear hx33
        try clear c35
        try clear hcz27_0
        try clear hcz27_1
        try clear hcz31_0
        try clear hcz31_1
        try clear hcz34_0
        try clear hcz34_1
        try clear hcz36_0
        try clear hcz36_1
        try clear hfz27_0
        try clear hfz27_1
        try clear hfz31_0
        try clear hfz31_1
        try clear hfz34_0
        try clear hfz34_1
        try clear hfz36_0
        try clear hfz36_1
        try clear hx338_0
        try clear hx338_1
        try clear p2
        try clear p3
        try clear p338
        try clear p6
        try clear q3
        try clear q338
        obtain ⟨kq, x62_19, rfl, HA, HJ19, BK329, BK340, HB⟩ := hcut
        cases kq with
        | zero => exact absurd HA.out (by simp [railplanlaw41_StoreAgain.j1])
        | succ kj19 =>
          have H := HA.out
          clear HA
          simp only [railplanlaw41_StoreAgain.j1] at H
          by_cases c37 : x62_19 = true
          · subst c37
            have H1 : ((railplanlaw41_awake.f kj19).bind fun t343 => (if t343 = true then (if t342 = 7 then (some (decide ((a1_1.size : Int) > 65536))) else (some false)) else (some false))) = some r := by rw [if_pos rfl] at H; exact H
            clear H
            have H := H1
            clear H1
            replace H := Option.bind_eq_some_iff.mp H
            obtain ⟨t343, A380, H⟩ := H
            replace H : (if t343 = true then (if t342 = 7 then (some (decide ((a1_1.size : Int) > 65536))) else (some false)) else (some false)) = some r := H
            have A38 := Aside0.mk A380
            clear A380
            by_cases c39 : t343 = true
            · subst c39
              have H1 : (if t342 = 7 then (some (decide ((a1_1.size : Int) > 65536))) else (some false)) = some r := by rw [if_pos rfl] at H; exact H
              clear H
              have H := H1
              clear H1
              by_cases c40 : t342 = 7
              · rw [if_pos c40] at H
                have c40b0 : (t342 == 7) = true := beq_iff_eq.mpr c40
                have c40b1 : (t342 != 7) = false := bne_eq_false_iff_eq.mpr c40
                clear c40
                obtain rfl := Option.some.inj H
                simp only [Option.some.injEq, Prod.mk.injEq] at H
                obtain ⟨rfl⟩ := H
                go_wp2_with (first | ((with_reducible refine gate_callee (f := 15) rfl ?_); refine goesL_ (some 63) rfl rfl Try.func15 (by kernel_rfl) rfl #[] rfl (by (try simp only [List.map_toArray, List.map_cons, List.map_nil]); first | done | rfl | (simp only [List.length_drop, List.length_take]; rfl)) ?_; (with_reducible refine (railplanlaw41_awake.calls kj19  true _ A38.out).mono ?_); rintro e w41 ⟨rfl, hb⟩; refine ⟨_, rfl, ?_⟩; have n0_ := Aside0.mk (blk_below (g := gb329) (o := .cells #[.int .i64 a1_0, .string a1_1] 23 (0, 0)) (by (with_reducible repeat (first | refine blk_drewN ?_ _ | refine blk_drew ?_ | refine blk_alloc ?_ _)); exact BK329.out) hb); have n1_ := Aside0.mk (blk_below (g := gb340) (o := .cells #[.int .i64 (wrap64 ((wrap64 (x10_6 + 1)) + t339)), .string a1_1] 23 (0, 0)) (by (with_reducible repeat (first | refine blk_drewN ?_ _ | refine blk_drew ?_ | refine blk_alloc ?_ _)); exact BK340.out) hb); have n2_ := Aside0.mk (below_step (by repeat (first | (with_reducible first | exact HB.out | apply below_alloc | apply pw_below_drewN | apply below_drew1 | refine below_set ?_ GE329.out | refine below_set ?_ GE340.out) | exact HB.out)) hb); clear BK329; clear BK340; clear HB; have BK329 := n0_; have BK340 := n1_; have HB := n2_; clear n0_ n1_ n2_; (try clear hb); (try clear hb2); (try clear hk); (try clear hi); have hnb42 := NB340_329.out; have hnc42 := NB329_340.out; have hcz43_0 : w41.cell? ⟨gb340, 0, none⟩ = some (.int .i64 (wrap64 ((wrap64 (x10_6 + 1)) + t339))) := (blk_cell BK340.out 0).trans rfl; have hcz43_1 : w41.cell? ⟨gb340, 1, none⟩ = some (.string a1_1) := (blk_cell BK340.out 1).trans rfl; have hfz43_0 := blk_frozen BK340.out 0; have hfz43_1 := blk_frozen BK340.out 1))
                go_ret
                exact ⟨by first | rfl | (simp [errW_none, errW_some] <;> rfl) | (simp [*, errW_none, errW_some] <;> rfl), by repeat (first | (with_reducible first | exact HB.out | apply below_alloc | apply pw_below_drewN | apply below_drew1 | refine below_set ?_ GE329.out | refine below_set ?_ GE340.out) | exact HB.out)⟩
              · rw [if_neg c40] at H
                have c40b0 : (t342 == 7) = false := beq_eq_false_iff_ne.mpr c40
                have c40b1 : (t342 != 7) = true := bne_iff_ne.mpr c40
                obtain rfl := Option.some.inj H
                exact absurd hr_.out (by decide)
            · replace c39 := Bool.eq_false_iff.mpr c39
              subst c39
              have H1 : (some false) = some r := by rw [if_neg (show ¬ (false = true) by decide)] at H; exact H
              clear H
              have H := H1
              clear H1
              obtain rfl := Option.some.inj H
              exact absurd hr_.out (by decide)
          · replace c37 := Bool.eq_false_iff.mpr c37
            subst c37
            have H1 : ((railplankeep_Pick.f a2 (wrap64 ((t341.size : Int) - t335))).bind fun t344 => (if 0 ≤ (wrap64 (t335 + t344)) then (if (wrap64 (t335 + t344)) ≤ (t341.size : Int) then ((store_Append.f kj19 (t341.extract 0 ((wrap64 (t335 + t344)) : Int).toNat) (wrap64 ((wrap64 (x10_6 + 1)) + t339)) a1_1).bind fun bt345 => ((railplanlaw41_awake.f kj19).bind fun t347 => (if t347 = true then (if bt345.2 = 0 then (some (bt345.1.toList == t341.toList)) else (some false)) else (some false)))) else (none)) else (none))) = some r := by rw [if_neg (show ¬ (false = true) by decide)] at H; exact H
            clear H
            have H := H1
            clear H1
            replace H := Option.bind_eq_some_iff.mp H
            obtain ⟨t344, A440, H⟩ := H
            replace H : (if 0 ≤ (wrap64 (t335 + t344)) then (if (wrap64 (t335 + t344)) ≤ (t341.size : Int) then ((store_Append.f kj19 (t341.extract 0 ((wrap64 (t335 + t344)) : Int).toNat) (wrap64 ((wrap64 (x10_6 + 1)) + t339)) a1_1).bind fun bt345 => ((railplanlaw41_awake.f kj19).bind fun t347 => (if t347 = true then (if bt345.2 = 0 then (some (bt345.1.toList == t341.toList)) else (some false)) else (some false)))) else (none)) else (none)) = some r := H
            have A44 := Aside0.mk A440
            clear A440
            obtain ⟨ji45, hji45⟩ : ∃ j_ : Int, (wrap64 (t335 + t344)) = j_ := ⟨_, rfl⟩
            replace H : (if 0 ≤ (ji45) then (if (ji45) ≤ (t341.size : Int) then ((store_Append.f kj19 (t341.extract 0 ((ji45) : Int).toNat) (wrap64 ((wrap64 (x10_6 + 1)) + t339)) a1_1).bind fun bt345 => ((railplanlaw41_awake.f kj19).bind fun t347 => (if t347 = true then (if bt345.2 = 0 then (some (bt345.1.toList == t341.toList)) else (some false)) else (some false)))) else (none)) else (none)) = some r := by first | (rw [hji45] at H; exact H) | (simp only [hji45] at H ⊢; exact H)
            (try rw [hji45] at A44)
            have hji45w : (IntKind.i64.wrap (t335 + t344)) = ji45 := (i64_w _).trans hji45
            by_cases c46 : 0 ≤ (ji45)
            · rw [if_pos c46] at H
              have c46b0 := eq_true c46
              have c46b1 : decide (0 ≤ (ji45)) = true := decide_eq_true c46
              clear c46
              by_cases c47 : (ji45) ≤ (t341.size : Int)
              · rw [if_pos c47] at H
                have c47b0 := eq_true c47
                have c47b1 : decide ((ji45) ≤ (t341.size : Int)) = true := decide_eq_true c47
                clear c47
                replace H := Option.bind_eq_some_iff.mp H
                obtain ⟨⟨t345, t346⟩, A480, H⟩ := H
                replace H : ((railplanlaw41_awake.f kj19).bind fun t347 => (if t347 = true then (if t346 = 0 then (some (t345.toList == t341.toList)) else (some false)) else (some false))) = some r := H
                have A48 := Aside0.mk A480
                clear A480
                replace H := Option.bind_eq_some_iff.mp H
                obtain ⟨t347, A490, H⟩ := H
                replace H : (if t347 = true then (if t346 = 0 then (some (t345.toList == t341.toList)) else (some false)) else (some false)) = some r := H
                have A49 := Aside0.mk A490
                clear A490
                by_cases c50 : t347 = true
                · subst c50
                  have H1 : (if t346 = 0 then (some (t345.toList == t341.toList)) else (some false)) = some r := by rw [if_pos rfl] at H; exact H
                  clear H
                  have H := H1
                  clear H1
                  by_cases c51 : t346 = 0
                  · rw [if_pos c51] at H
                    have c51b0 : (t346 == 0) = true := beq_iff_eq.mpr c51
                    have c51b1 : (t346 != 0) = false := bne_eq_false_iff_eq.mpr c51
                    clear c51
                    obtain rfl := Option.some.inj H
                    simp only [Option.some.injEq, Prod.mk.injEq] at H
                    obtain ⟨rfl⟩ := H
                    try go_wp2
                    have n0_ := Aside0.mk (blk_drew BK329.out)
                    have n1_ := Aside0.mk (blk_drew BK340.out)
                    have n2_ := Aside0.mk (below_drew1 HB.out)
                    clear BK329
                    clear BK340
                    clear HB
                    have BK329 := n0_
                    have BK340 := n1_
                    have HB := n2_
                    clear n0_ n1_ n2_
                    refine start_ (n := 17) (S := fun w' => w'.cell? ⟨gb340, 0, none⟩ = some (.int .i64 (wrap64 ((wrap64 (x10_6 + 1)) + t339))) ∧ w'.cell? ⟨gb340, 1, none⟩ = some (.string a1_1)) (ds := []) #[false, false, false, false, false, false, false, false, false, false, false, false, false, false, false, false, false] (by kernel_rfl) rfl rfl ⟨(blk_cell BK340.out 0).trans rfl, (blk_cell BK340.out 1).trans rfl⟩ (fun hHeld => ?_); refine with_tabW railplanlaw41_StoreAgain.tab10 railplanlaw41_StoreAgain.bits10 (fun HT_ HW_ => ?_)
                    generalize wc.drew = w52 at BK329 BK340 HB hHeld ⊢
                    refine pure_ (i := 0) (N := some 75) (v := ?_) (a' := ?_) #[true, false, false, false, false, false, false, false, false, false, false, false, false, false, false, false, false] rfl rfl (any_of HT_.out (by kernel_rfl)) (fun _ _ _ h => h) (Or.inl ⟨by rfl, ?_⟩) ?_ ?_
                    rotate_left
                    · intro w'
                      go_simp
                      with_reducible rfl
                    rotate_left
                    · simp only [Act.put, List.setIfInBounds_toArray, List.set_cons_zero, List.set_cons_succ, i64_w, i32_w]
                      rfl
                    refine pure_ (i := 1) (N := some 76) (v := ?_) (a' := ?_) #[true, true, false, false, false, false, false, false, false, false, false, false, false, false, false, false, false] rfl rfl (any_of HT_.out (by kernel_rfl)) (fun _ _ _ h => h) (Or.inl ⟨by rfl, ?_⟩) ?_ ?_
                    rotate_left
                    · intro w'
                      go_simp
                      with_reducible rfl
                    rotate_left
                    · simp only [Act.put, List.setIfInBounds_toArray, List.set_cons_zero, List.set_cons_succ, i64_w, i32_w]
                      rfl
                    refine pure_ (i := 2) (N := some 77) (v := ?_) (a' := ?_) #[true, true, true, false, false, false, false, false, false, false, false, false, false, false, false, false, false] rfl rfl (any_of HT_.out (by kernel_rfl)) (fun _ _ _ h => h) (Or.inl ⟨by rfl, ?_⟩) ?_ ?_
                    rotate_left
                    · intro w'
                      go_simp
                      with_reducible rfl
                    rotate_left
                    · simp only [Act.put, List.setIfInBounds_toArray, List.set_cons_zero, List.set_cons_succ, i64_w, i32_w]
                      rfl
                    refine pure_ (i := 3) (N := some 78) (v := ?_) (a' := ?_) #[true, true, true, true, false, false, false, false, false, false, false, false, false, false, false, false, false] rfl rfl (any_of HT_.out (by kernel_rfl)) (fun _ _ _ h => h) (Or.inl ⟨by rfl, ?_⟩) ?_ ?_
                    rotate_left
                    · intro w'
                      go_simp
                      with_reducible rfl
                    rotate_left
                    · simp only [Act.put, List.setIfInBounds_toArray, List.set_cons_zero, List.set_cons_succ, i64_w, i32_w]
                      rfl
                    refine pure_ (i := 4) (N := some 79) (v := ?_) (a' := ?_) #[true, true, true, true, true, false, false, false, false, false, false, false, false, false, false, false, false] rfl rfl (any_of HT_.out (by kernel_rfl)) (fun _ _ _ h => h) (Or.inl ⟨by rfl, ?_⟩) ?_ ?_
                    rotate_left
                    · intro w'
                      go_simp
                      with_reducible rfl
                    rotate_left
                    · simp only [Act.put, List.setIfInBounds_toArray, List.set_cons_zero, List.set_cons_succ, i64_w, i32_w]
                      rfl
                    refine pure_ (i := 5) (N := some 80) (v := ?_) (a' := ?_) #[true, true, true, true, true, true, false, false, false, false, false, false, false, false, false, false, false] rfl rfl (any_of HT_.out (by kernel_rfl)) (fun _ _ _ h => h) (Or.inl ⟨by rfl, ?_⟩) ?_ ?_
                    rotate_left
                    · intro w'
                      go_simp
                      with_reducible rfl
                    rotate_left
                    · simp only [Act.put, List.setIfInBounds_toArray, List.set_cons_zero, List.set_cons_succ, i64_w, i32_w]
                      rfl
                    refine pure_ (i := 6) (N := some 81) (v := ?_) (a' := ?_) #[true, true, true, true, true, true, true, false, false, false, false, false, false, false, false, false, false] rfl rfl (any_of HT_.out (by kernel_rfl)) (fun _ _ _ h => h) (Or.inl ⟨by rfl, ?_⟩) ?_ ?_
                    rotate_left
                    · intro w'
                      go_simp
                      with_reducible rfl
                    rotate_left
                    · simp only [Act.put, List.setIfInBounds_toArray, List.set_cons_zero, List.set_cons_succ, i64_w, i32_w]
                      rfl
                    refine take_ (i := 10) (N := some 85) (v := ?_) (a' := ?_) #[true, true, true, true, true, true, true, false, false, false, true, false, false, false, false, false, false] rfl rfl (take_ofW HT_.out HW_.out (by kernel_rfl)) (fun _ _ _ h => h) (Or.inl ⟨by rfl, ?_⟩) hHeld ?_ ?_
                    rotate_left
                    · rintro w' ⟨s0, s1⟩
                      go_simp
                      with_reducible rfl
                    rotate_left
                    · simp only [Act.put, List.setIfInBounds_toArray, List.set_cons_zero, List.set_cons_succ, i64_w, i32_w]
                      rfl
                    refine one_ (i := 7) (N := some 82) #[true, true, true, true, true, true, true, true, false, false, true, false, false, false, false, false, false] rfl rfl (one_of HT_.out (by kernel_rfl)) (by decide) (fun K hK => ?_)
                    refine goes_ Try.func14 (by kernel_rfl) rfl #[.int .i64 a2, .int .i64 (wrap64 ((t341.size : Int) - t335))] (by rfl) rfl rfl (by (try simp only [List.map_toArray, List.map_cons, List.map_nil]); first | done | rfl | (simp only [List.length_drop, List.length_take]; rfl)) ?_
                    with_reducible refine (railplankeep_Pick.calls a2 (wrap64 ((t341.size : Int) - t335)) t344 _ A44.out).mono ?_
                    rintro e w' ⟨rfl, ⟨nd, rfl⟩⟩
                    refine ⟨_, rfl, ?_⟩
                    refine hK.out _ _ ⟨(blk_cell BK340.out 0).trans rfl, (blk_cell BK340.out 1).trans rfl⟩ (fun hHeld => ?_)
                    clear hK K
                    refine norm_ (a' := ?_) ?_ ?_
                    rotate_left
                    · show Act.put _ (some 82) _ = _
                      simp only [Act.put, List.setIfInBounds_toArray, List.set_cons_zero, List.set_cons_succ, i64_w, i32_w]
                      rfl
                    refine pure_ (i := 8) (N := some 83) (v := ?_) (a' := ?_) #[true, true, true, true, true, true, true, true, true, false, true, false, false, false, false, false, false] rfl rfl (any_of HT_.out (by kernel_rfl)) (fun _ _ _ h => h) (Or.inl ⟨by rfl, ?_⟩) ?_ ?_
                    rotate_left
                    · intro w'
                      go_simp
                      with_reducible rfl
                    rotate_left
                    · simp only [Act.put, List.setIfInBounds_toArray, List.set_cons_zero, List.set_cons_succ, i64_w, i32_w]
                      rfl
                    refine pure_ (i := 9) (N := some 84) (v := ?_) (a' := ?_) #[true, true, true, true, true, true, true, true, true, true, true, false, false, false, false, false, false] rfl rfl (any_of HT_.out (by kernel_rfl)) (fun _ _ _ h => h) (Or.inl ⟨by rfl, ?_⟩) ?_ ?_
                    rotate_left
                    · intro w'
                      go_simp
                      with_reducible rfl
                    rotate_left
                    · simp only [Act.put, List.setIfInBounds_toArray, List.set_cons_zero, List.set_cons_succ, i64_w, i32_w]
                      rfl
                    refine one_ (i := 11) (N := some 86) #[true, true, true, true, true, true, true, true, true, true, true, true, false, false, false, false, false] rfl rfl (one_of HT_.out (by kernel_rfl)) (by decide) (fun K hK => ?_)
                    refine goes_ Try.func22 (by kernel_rfl) rfl #[.string (t341.extract 0 ((ji45) : Int).toNat), .agg #[.int .i64 (wrap64 ((wrap64 (x10_6 + 1)) + t339)), .string a1_1]] (by rfl) rfl rfl (by (try simp only [List.map_toArray, List.map_cons, List.map_nil]); first | done | (simp only [hji45]; rfl) | rfl | (simp only [List.length_drop, List.length_take]; rfl)) ?_
                    with_reducible refine (store_Append.calls kj19 (t341.extract 0 ((ji45) : Int).toNat) (wrap64 ((wrap64 (x10_6 + 1)) + t339)) a1_1 t345 t346 _ A48.out).mono ?_
                    rintro e w53 ⟨rfl, hb⟩
                    refine ⟨_, rfl, ?_⟩
                    have n0_ := Aside0.mk (blk_below (g := gb329) (o := .cells #[.int .i64 a1_0, .string a1_1] 23 (0, 0)) (by (with_reducible repeat (first | refine blk_drewN ?_ _ | refine blk_drew ?_ | refine blk_alloc ?_ _)); exact BK329.out) hb)
                    have n1_ := Aside0.mk (blk_below (g := gb340) (o := .cells #[.int .i64 (wrap64 ((wrap64 (x10_6 + 1)) + t339)), .string a1_1] 23 (0, 0)) (by (with_reducible repeat (first | refine blk_drewN ?_ _ | refine blk_drew ?_ | refine blk_alloc ?_ _)); exact BK340.out) hb)
                    have n2_ := Aside0.mk (below_step (by repeat (first | (with_reducible first | exact HB.out | apply below_alloc | apply pw_below_drewN | apply below_drew1 | refine below_set ?_ GE329.out | refine below_set ?_ GE340.out) | exact HB.out)) hb)
                    clear BK329
                    clear BK340
                    clear HB
                    have BK329 := n0_
                    have BK340 := n1_
                    have HB := n2_
                    clear n0_ n1_ n2_
                    (try clear hb)
                    (try clear hb2)
                    (try clear hk)
                    (try clear hi)
                    refine hK.out _ _ ⟨(blk_cell BK340.out 0).trans rfl, (blk_cell BK340.out 1).trans rfl⟩ (fun hHeld => ?_)
                    clear hK K
                    refine norm_ (a' := ?_) ?_ ?_
                    rotate_left
                    · show Act.put _ (some 86) _ = _
                      simp only [Act.put, List.setIfInBounds_toArray, List.set_cons_zero, List.set_cons_succ, i64_w, i32_w]
                      rfl
                    refine pure_ (i := 12) (N := some 74) (v := ?_) (a' := ?_) #[true, true, true, true, true, true, true, true, true, true, true, true, true, false, false, false, false] rfl rfl (any_of HT_.out (by kernel_rfl)) (fun _ _ _ h => h) (Or.inl ⟨by rfl, ?_⟩) ?_ ?_
                    rotate_left
                    · intro w'
                      go_simp
                      with_reducible rfl
                    rotate_left
                    · simp only [Act.put, List.setIfInBounds_toArray, List.set_cons_zero, List.set_cons_succ, i64_w, i32_w]
                      rfl
                    refine pure_ (i := 13) (N := some 87) (v := ?_) (a' := ?_) #[true, true, true, true, true, true, true, true, true, true, true, true, true, true, false, false, false] rfl rfl (any_of HT_.out (by kernel_rfl)) (fun _ _ _ h => h) (Or.inl ⟨by rfl, ?_⟩) ?_ ?_
                    rotate_left
                    · intro w'
                      go_simp
                      with_reducible rfl
                    rotate_left
                    · simp only [Act.put, List.setIfInBounds_toArray, List.set_cons_zero, List.set_cons_succ, i64_w, i32_w]
                      rfl
                    refine pure_ (i := 14) (N := some 88) (v := ?_) (a' := ?_) #[true, true, true, true, true, true, true, true, true, true, true, true, true, true, true, false, false] rfl rfl (any_of HT_.out (by kernel_rfl)) (fun _ _ _ h => h) (Or.inl ⟨by rfl, ?_⟩) ?_ ?_
                    rotate_left
                    · intro w'
                      go_simp
                      with_reducible rfl
                    rotate_left
                    · simp only [Act.put, List.setIfInBounds_toArray, List.set_cons_zero, List.set_cons_succ, i64_w, i32_w]
                      rfl
                    refine pure_ (i := 15) (N := some 14) (v := ?_) (a' := ?_) #[true, true, true, true, true, true, true, true, true, true, true, true, true, true, true, true, false] rfl rfl (any_of HT_.out (by kernel_rfl)) (fun _ _ _ h => h) (Or.inl ⟨by rfl, ?_⟩) ?_ ?_
                    rotate_left
                    · intro w'
                      go_simp
                      with_reducible rfl
                    rotate_left
                    · simp only [Act.put, List.setIfInBounds_toArray, List.set_cons_zero, List.set_cons_succ, i64_w, i32_w]
                      rfl
                    refine pure_ (i := 16) (N := some 15) (v := ?_) (a' := ?_) #[true, true, true, true, true, true, true, true, true, true, true, true, true, true, true, true, true] rfl rfl (any_of HT_.out (by kernel_rfl)) (fun _ _ _ h => h) (Or.inl ⟨by rfl, ?_⟩) ?_ ?_
                    rotate_left
                    · intro w'
                      go_simp
                      with_reducible rfl
                    rotate_left
                    · simp only [Act.put, List.setIfInBounds_toArray, List.set_cons_zero, List.set_cons_succ, i64_w, i32_w]
                      rfl
                    refine done_ (done_of HT_.out (by kernel_rfl)) ?_
                    try go_wp2_with (first | ((with_reducible refine gate_callee (f := 15) rfl ?_); refine goesL_ (some 89) rfl rfl Try.func15 (by kernel_rfl) rfl #[] rfl (by (try simp only [List.map_toArray, List.map_cons, List.map_nil]); first | done | rfl | (simp only [List.length_drop, List.length_take]; rfl)) ?_; (with_reducible refine (railplanlaw41_awake.calls kj19  true _ A49.out).mono ?_); rintro e w54 ⟨rfl, hb⟩; refine ⟨_, rfl, ?_⟩; have n0_ := Aside0.mk (blk_below (g := gb329) (o := .cells #[.int .i64 a1_0, .string a1_1] 23 (0, 0)) (by (with_reducible repeat (first | refine blk_drewN ?_ _ | refine blk_drew ?_ | refine blk_alloc ?_ _)); exact BK329.out) hb); have n1_ := Aside0.mk (blk_below (g := gb340) (o := .cells #[.int .i64 (wrap64 ((wrap64 (x10_6 + 1)) + t339)), .string a1_1] 23 (0, 0)) (by (with_reducible repeat (first | refine blk_drewN ?_ _ | refine blk_drew ?_ | refine blk_alloc ?_ _)); exact BK340.out) hb); have n2_ := Aside0.mk (below_step (by repeat (first | (with_reducible first | exact HB.out | apply below_alloc | apply pw_below_drewN | apply below_drew1 | refine below_set ?_ GE329.out | refine below_set ?_ GE340.out) | exact HB.out)) hb); clear BK329; clear BK340; clear HB; have BK329 := n0_; have BK340 := n1_; have HB := n2_; clear n0_ n1_ n2_; (try clear hb); (try clear hb2); (try clear hk); (try clear hi)))
                    go_ret
                    exact ⟨by first | rfl | (simp [errW_none, errW_some] <;> rfl) | (simp only [← hji45]; first | rfl | (simp [errW_none, errW_some] <;> rfl)) | (simp [*, errW_none, errW_some] <;> rfl), by repeat (first | (with_reducible first | exact HB.out | apply below_alloc | apply pw_below_drewN | apply below_drew1 | refine below_set ?_ GE329.out | refine below_set ?_ GE340.out) | exact HB.out)⟩
                  · rw [if_neg c51] at H
                    have c51b0 : (t346 == 0) = false := beq_eq_false_iff_ne.mpr c51
                    have c51b1 : (t346 != 0) = true := bne_iff_ne.mpr c51
                    obtain rfl := Option.some.inj H
                    exact absurd hr_.out (by decide)
                · replace c50 := Bool.eq_false_iff.mpr c50
                  subst c50
                  have H1 : (some false) = some r := by rw [if_neg (show ¬ (false = true) by decide)] at H; exact H
                  clear H
                  have H := H1
                  clear H1
                  obtain rfl := Option.some.inj H
                  exact absurd hr_.out (by decide)
              · rw [if_neg c47] at H
                exact absurd H (by simp)
            · rw [if_neg c46] at H
              exact absurd H (by simp)

def railplanlaw41_StoreAgain.Pure : Prop := ∀ (l0 : List Int) (a1_0 : Int) (a1_1 : ByteArray) (a2 : Int), (fun xs : List Int => xs.length * 8 ≤ 140737488351232 ∧ xs.length ≤ maxLen ∧ ∀ x ∈ xs, (fun x : Int => (Lit.int .i64 x).wf = true) x) l0 → (fun x : Int => (Lit.int .i64 x).wf = true) a1_0 → (fun x : ByteArray => x.size ≤ 140737488351232) a1_1 → (fun x : Int => (Lit.int .i64 x).wf = true) a2 → ∃ k, railplanlaw41_StoreAgain.f k l0 a1_0 a1_1 a2 = some true

end Go.Proofs.Ytolckgeffmaakaa.X
