/- Written by a program of this claim. Proved: each Go function named below, called with any arguments at which its Lean function answers, returns that answer; or, of a law, its given statement. -/
import Derived.Test.YtolckgeffmaakaaX0
import Derived.Test.YtolckgeffmaakaaX1
import Derived.Test.YtolckgeffmaakaaX5
import Derived.Test.YtolckgeffmaakaaX7
import Derived.Test.YtolckgeffmaakaaX11
import Derived.Test.YtolckgeffmaakaaX13
namespace Go.Proofs.Ytolckgeffmaakaa.X
open Go.RowKit Go.Proofs.YtolckgeffmaakaaW Go.Proofs.YtolckgeffmaakaaW.PrintWords Go.Proofs.YtolckgeffmaakaaW.PrintLast Go.Proofs.YtolckgeffmaakaaW.PrintMore
attribute [local go_sem] max2_int min2_int max_two min_two max_three min_three max_four min_four   -- for this text's walks alone
set_option linter.unusedVariables false
set_option linter.unusedSimpArgs false

attribute [local go_sem high] eqA23
/-! ### railplanlaw41_StoreHistory: function 8 -/
mutual
def railplanlaw41_StoreHistory.l0 : Nat → ByteArray → List (S23) → List (S23) → Int → Int → Option (Bool)
  | 0, _, _, _, _, _ => none
  | k + 1, x4, x5, x19, x20, x21 => if x21 < x20 then (if 0 ≤ x21 then (if x21 < (x19.length : Int) then ((store_Append.f k x4 ((rd_T23 x19 x21).f0) ((rd_T23 x19 x21).f1)).bind fun bt360 => (if ((rd_T23 x19 x21).f0) ≥ 1 then (if (x5.length : Int) = 0 then (railplanlaw41_StoreHistory.j1 k x4 x5 bt360.1 bt360.2 true x19 x20 x21 ((rd_T23 x19 x21).f0) ((rd_T23 x19 x21).f1)) else (if 0 ≤ (wrap64 ((x5.length : Int) - 1)) then (if (wrap64 ((x5.length : Int) - 1)) < (x5.length : Int) then (railplanlaw41_StoreHistory.j1 k x4 x5 bt360.1 bt360.2 (decide (((rd_T23 x19 x21).f0) > ((rd_T23 x5 (wrap64 ((x5.length : Int) - 1))).f0))) x19 x20 x21 ((rd_T23 x19 x21).f0) ((rd_T23 x19 x21).f1)) else (none)) else (none))) else (railplanlaw41_StoreHistory.j1 k x4 x5 bt360.1 bt360.2 false x19 x20 x21 ((rd_T23 x19 x21).f0) ((rd_T23 x19 x21).f1)))) else (none)) else (none)) else (railplanlaw41_StoreHistory.l1 k x4 x5 x5 (x5.length : Int) 0)
def railplanlaw41_StoreHistory.j1 : Nat → ByteArray → List (S23) → ByteArray → Int → Bool → List (S23) → Int → Int → Int → ByteArray → Option (Bool)
  | 0, _, _, _, _, _, _, _, _, _, _ => none
  | k + 1, x4, x5, x8, x9, x10, x19, x20, x21, x360000, x360001 => if x10 = true then (railplanlaw41_StoreHistory.j2 k x4 x5 x8 x9 x10 x19 x20 x21 (x9 != 0) x360000 x360001) else (railplanlaw41_StoreHistory.j2 k x4 x5 x8 x9 x10 x19 x20 x21 false x360000 x360001)
def railplanlaw41_StoreHistory.j2 : Nat → ByteArray → List (S23) → ByteArray → Int → Bool → List (S23) → Int → Int → Bool → Int → ByteArray → Option (Bool)
  | 0, _, _, _, _, _, _, _, _, _, _, _ => none
  | k + 1, x4, x5, x8, x9, x10, x19, x20, x21, x51, x360000, x360001 => if x51 = true then (railplanlaw41_StoreHistory.j3 k x4 x5 x8 x10 x19 x20 x21 x51 x360000 x360001) else (if x10 = true then (railplanlaw41_StoreHistory.j3 k x4 x5 x8 x10 x19 x20 x21 false x360000 x360001) else (if x360000 < 1 then (if x9 = 4 then (if x360000 ≥ 1 then (railplanlaw41_StoreHistory.j3 k x4 x5 x8 x10 x19 x20 x21 (x9 != 20) x360000 x360001) else (railplanlaw41_StoreHistory.j3 k x4 x5 x8 x10 x19 x20 x21 false x360000 x360001)) else (railplanlaw41_StoreHistory.j3 k x4 x5 x8 x10 x19 x20 x21 (x9 != 4) x360000 x360001)) else (if x360000 ≥ 1 then (railplanlaw41_StoreHistory.j3 k x4 x5 x8 x10 x19 x20 x21 (x9 != 20) x360000 x360001) else (railplanlaw41_StoreHistory.j3 k x4 x5 x8 x10 x19 x20 x21 false x360000 x360001))))
def railplanlaw41_StoreHistory.j3 : Nat → ByteArray → List (S23) → ByteArray → Bool → List (S23) → Int → Int → Bool → Int → ByteArray → Option (Bool)
  | 0, _, _, _, _, _, _, _, _, _, _ => none
  | k + 1, x4, x5, x8, x10, x19, x20, x21, x51, x360000, x360001 => if x51 = true then (some false) else (if x10 = true then (if x5.length < 5864062014805 then (railplanlaw41_StoreHistory.l0 k x8 (x5 ++ [(⟨x360000, x360001⟩ : S23)]) x19 x20 (wrap64 (x21 + 1))) else (none)) else (railplanlaw41_StoreHistory.l0 k x4 x5 x19 x20 (wrap64 (x21 + 1))))
def railplanlaw41_StoreHistory.l1 : Nat → ByteArray → List (S23) → List (S23) → Int → Int → Option (Bool)
  | 0, _, _, _, _, _ => none
  | k + 1, x4, x5, x86, x87, x88 => if x88 < x87 then (if 0 ≤ x88 then (if x88 < (x86.length : Int) then ((store_Get.f k x4 ((rd_T23 x86 x88).f0)).bind fun bt368 => (if bt368.2.2 = 0 then (if (!(bt368.1 == ((rd_T23 x86 x88).f0)) || (!(bt368.2.1.toList == (((rd_T23 x86 x88).f1).toList)))) = true then (some false) else (railplanlaw41_StoreHistory.l1 k x4 x5 x86 x87 (wrap64 (x88 + 1)))) else (some false))) else (none)) else (none)) else ((store_Scan.f k x4).bind fun bt372 => ((railplanlaw41_awake.f k).bind fun t376 => (if t376 = true then ((api_Version.f k bt372.1 x5).bind fun t377 => (if t377 = true then (some (bt372.2 == (x4.size : Int))) else (some false))) else (some false))))
end
def railplanlaw41_StoreHistory.f (k : Nat) (l0 : List Int) : Option (Bool) := (railplanlaw41_versions.f k l0).bind fun t355 => (railplanlaw41_StoreHistory.l0 k (⟨#[]⟩ : ByteArray) ([] : List (S23)) t355 (t355.length : Int) 0)
theorem railplanlaw41_StoreHistory.mono_l : ∀ k, (∀ y0 y1 y2 y3 y4, LeO (railplanlaw41_StoreHistory.l0 k y0 y1 y2 y3 y4) (railplanlaw41_StoreHistory.l0 (k + 1) y0 y1 y2 y3 y4)) ∧ (∀ y0 y1 y2 y3 y4 y5 y6 y7 y8 y9, LeO (railplanlaw41_StoreHistory.j1 k y0 y1 y2 y3 y4 y5 y6 y7 y8 y9) (railplanlaw41_StoreHistory.j1 (k + 1) y0 y1 y2 y3 y4 y5 y6 y7 y8 y9)) ∧ (∀ y0 y1 y2 y3 y4 y5 y6 y7 y8 y9 y10, LeO (railplanlaw41_StoreHistory.j2 k y0 y1 y2 y3 y4 y5 y6 y7 y8 y9 y10) (railplanlaw41_StoreHistory.j2 (k + 1) y0 y1 y2 y3 y4 y5 y6 y7 y8 y9 y10)) ∧ (∀ y0 y1 y2 y3 y4 y5 y6 y7 y8 y9, LeO (railplanlaw41_StoreHistory.j3 k y0 y1 y2 y3 y4 y5 y6 y7 y8 y9) (railplanlaw41_StoreHistory.j3 (k + 1) y0 y1 y2 y3 y4 y5 y6 y7 y8 y9)) ∧ (∀ y0 y1 y2 y3 y4, LeO (railplanlaw41_StoreHistory.l1 k y0 y1 y2 y3 y4) (railplanlaw41_StoreHistory.l1 (k + 1) y0 y1 y2 y3 y4))
  | 0 => ⟨fun _ _ _ _ _ r h => by simp [railplanlaw41_StoreHistory.l0] at h, fun _ _ _ _ _ _ _ _ _ _ r h => by simp [railplanlaw41_StoreHistory.j1] at h, fun _ _ _ _ _ _ _ _ _ _ _ r h => by simp [railplanlaw41_StoreHistory.j2] at h, fun _ _ _ _ _ _ _ _ _ _ r h => by simp [railplanlaw41_StoreHistory.j3] at h, fun _ _ _ _ _ r h => by simp [railplanlaw41_StoreHistory.l1] at h⟩
  | k + 1 => by
    obtain ⟨ih0, ih1, ih2, ih3, ih4⟩ := railplanlaw41_StoreHistory.mono_l k
    refine ⟨?_, ?_, ?_, ?_, ?_⟩
    · intro y0 y1 y2 y3 y4
      unfold railplanlaw41_StoreHistory.l0
      repeat' first
      | (with_reducible exact ih0 _ _ _ _ _)
      | (with_reducible exact ih1 _ _ _ _ _ _ _ _ _ _)
      | (with_reducible exact ih2 _ _ _ _ _ _ _ _ _ _ _)
      | (with_reducible exact ih3 _ _ _ _ _ _ _ _ _ _)
      | (with_reducible exact ih4 _ _ _ _ _)
      | (with_reducible exact api_Version.mono _ _ _)
      | (with_reducible exact railplanlaw41_awake.mono _)
      | (with_reducible exact railplanlaw41_versions.mono _ _)
      | (with_reducible exact store_Append.mono _ _ _ _)
      | (with_reducible exact store_Get.mono _ _ _)
      | (with_reducible exact store_Scan.mono _ _)
      | (with_reducible exact LeO.refl _)
      | (with_reducible exact LeO.none _)
      | (with_reducible refine LeO.ite ?_ ?_)
      | (with_reducible refine LeO.bind ?_ (fun _ => ?_))
      | exact ih0 _ _ _ _ _
      | exact ih1 _ _ _ _ _ _ _ _ _ _
      | exact ih2 _ _ _ _ _ _ _ _ _ _ _
      | exact ih3 _ _ _ _ _ _ _ _ _ _
      | exact ih4 _ _ _ _ _
      | exact api_Version.mono _ _ _
      | exact railplanlaw41_awake.mono _
      | exact railplanlaw41_versions.mono _ _
      | exact store_Append.mono _ _ _ _
      | exact store_Get.mono _ _ _
      | exact store_Scan.mono _ _
      | exact LeO.none _
      | refine LeO.ite ?_ ?_
      | refine LeO.bind ?_ (fun _ => ?_)
    · intro y0 y1 y2 y3 y4 y5 y6 y7 y8 y9
      unfold railplanlaw41_StoreHistory.j1
      repeat' first
      | (with_reducible exact ih0 _ _ _ _ _)
      | (with_reducible exact ih1 _ _ _ _ _ _ _ _ _ _)
      | (with_reducible exact ih2 _ _ _ _ _ _ _ _ _ _ _)
      | (with_reducible exact ih3 _ _ _ _ _ _ _ _ _ _)
      | (with_reducible exact ih4 _ _ _ _ _)
      | (with_reducible exact api_Version.mono _ _ _)
      | (with_reducible exact railplanlaw41_awake.mono _)
      | (with_reducible exact railplanlaw41_versions.mono _ _)
      | (with_reducible exact store_Append.mono _ _ _ _)
      | (with_reducible exact store_Get.mono _ _ _)
      | (with_reducible exact store_Scan.mono _ _)
      | (with_reducible exact LeO.refl _)
      | (with_reducible exact LeO.none _)
      | (with_reducible refine LeO.ite ?_ ?_)
      | (with_reducible refine LeO.bind ?_ (fun _ => ?_))
      | exact ih0 _ _ _ _ _
      | exact ih1 _ _ _ _ _ _ _ _ _ _
      | exact ih2 _ _ _ _ _ _ _ _ _ _ _
      | exact ih3 _ _ _ _ _ _ _ _ _ _
      | exact ih4 _ _ _ _ _
      | exact api_Version.mono _ _ _
      | exact railplanlaw41_awake.mono _
      | exact railplanlaw41_versions.mono _ _
      | exact store_Append.mono _ _ _ _
      | exact store_Get.mono _ _ _
      | exact store_Scan.mono _ _
      | exact LeO.none _
      | refine LeO.ite ?_ ?_
      | refine LeO.bind ?_ (fun _ => ?_)
    · intro y0 y1 y2 y3 y4 y5 y6 y7 y8 y9 y10
      unfold railplanlaw41_StoreHistory.j2
      repeat' first
      | (with_reducible exact ih0 _ _ _ _ _)
      | (with_reducible exact ih1 _ _ _ _ _ _ _ _ _ _)
      | (with_reducible exact ih2 _ _ _ _ _ _ _ _ _ _ _)
      | (with_reducible exact ih3 _ _ _ _ _ _ _ _ _ _)
      | (with_reducible exact ih4 _ _ _ _ _)
      | (with_reducible exact api_Version.mono _ _ _)
      | (with_reducible exact railplanlaw41_awake.mono _)
      | (with_reducible exact railplanlaw41_versions.mono _ _)
      | (with_reducible exact store_Append.mono _ _ _ _)
      | (with_reducible exact store_Get.mono _ _ _)
      | (with_reducible exact store_Scan.mono _ _)
      | (with_reducible exact LeO.refl _)
      | (with_reducible exact LeO.none _)
      | (with_reducible refine LeO.ite ?_ ?_)
      | (with_reducible refine LeO.bind ?_ (fun _ => ?_))
      | exact ih0 _ _ _ _ _
      | exact ih1 _ _ _ _ _ _ _ _ _ _
      | exact ih2 _ _ _ _ _ _ _ _ _ _ _
      | exact ih3 _ _ _ _ _ _ _ _ _ _
      | exact ih4 _ _ _ _ _
      | exact api_Version.mono _ _ _
      | exact railplanlaw41_awake.mono _
      | exact railplanlaw41_versions.mono _ _
      | exact store_Append.mono _ _ _ _
      | exact store_Get.mono _ _ _
      | exact store_Scan.mono _ _
      | exact LeO.none _
      | refine LeO.ite ?_ ?_
      | refine LeO.bind ?_ (fun _ => ?_)
    · intro y0 y1 y2 y3 y4 y5 y6 y7 y8 y9
      unfold railplanlaw41_StoreHistory.j3
      repeat' first
      | (with_reducible exact ih0 _ _ _ _ _)
      | (with_reducible exact ih1 _ _ _ _ _ _ _ _ _ _)
      | (with_reducible exact ih2 _ _ _ _ _ _ _ _ _ _ _)
      | (with_reducible exact ih3 _ _ _ _ _ _ _ _ _ _)
      | (with_reducible exact ih4 _ _ _ _ _)
      | (with_reducible exact api_Version.mono _ _ _)
      | (with_reducible exact railplanlaw41_awake.mono _)
      | (with_reducible exact railplanlaw41_versions.mono _ _)
      | (with_reducible exact store_Append.mono _ _ _ _)
      | (with_reducible exact store_Get.mono _ _ _)
      | (with_reducible exact store_Scan.mono _ _)
      | (with_reducible exact LeO.refl _)
      | (with_reducible exact LeO.none _)
      | (with_reducible refine LeO.ite ?_ ?_)
      | (with_reducible refine LeO.bind ?_ (fun _ => ?_))
      | exact ih0 _ _ _ _ _
      | exact ih1 _ _ _ _ _ _ _ _ _ _
      | exact ih2 _ _ _ _ _ _ _ _ _ _ _
      | exact ih3 _ _ _ _ _ _ _ _ _ _
      | exact ih4 _ _ _ _ _
      | exact api_Version.mono _ _ _
      | exact railplanlaw41_awake.mono _
      | exact railplanlaw41_versions.mono _ _
      | exact store_Append.mono _ _ _ _
      | exact store_Get.mono _ _ _
      | exact store_Scan.mono _ _
      | exact LeO.none _
      | refine LeO.ite ?_ ?_
      | refine LeO.bind ?_ (fun _ => ?_)
    · intro y0 y1 y2 y3 y4
      unfold railplanlaw41_StoreHistory.l1
      repeat' first
      | (with_reducible exact ih0 _ _ _ _ _)
      | (with_reducible exact ih1 _ _ _ _ _ _ _ _ _ _)
      | (with_reducible exact ih2 _ _ _ _ _ _ _ _ _ _ _)
      | (with_reducible exact ih3 _ _ _ _ _ _ _ _ _ _)
      | (with_reducible exact ih4 _ _ _ _ _)
      | (with_reducible exact api_Version.mono _ _ _)
      | (with_reducible exact railplanlaw41_awake.mono _)
      | (with_reducible exact railplanlaw41_versions.mono _ _)
      | (with_reducible exact store_Append.mono _ _ _ _)
      | (with_reducible exact store_Get.mono _ _ _)
      | (with_reducible exact store_Scan.mono _ _)
      | (with_reducible exact LeO.refl _)
      | (with_reducible exact LeO.none _)
      | (with_reducible refine LeO.ite ?_ ?_)
      | (with_reducible refine LeO.bind ?_ (fun _ => ?_))
      | exact ih0 _ _ _ _ _
      | exact ih1 _ _ _ _ _ _ _ _ _ _
      | exact ih2 _ _ _ _ _ _ _ _ _ _ _
      | exact ih3 _ _ _ _ _ _ _ _ _ _
      | exact ih4 _ _ _ _ _
      | exact api_Version.mono _ _ _
      | exact railplanlaw41_awake.mono _
      | exact railplanlaw41_versions.mono _ _
      | exact store_Append.mono _ _ _ _
      | exact store_Get.mono _ _ _
      | exact store_Scan.mono _ _
      | exact LeO.none _
      | refine LeO.ite ?_ ?_
      | refine LeO.bind ?_ (fun _ => ?_)
theorem railplanlaw41_StoreHistory.mono : ∀ a0 k, LeO (railplanlaw41_StoreHistory.f k a0) (railplanlaw41_StoreHistory.f (k + 1) a0) := by
  intro a0 k
  obtain ⟨ih0, ih1, ih2, ih3, ih4⟩ := railplanlaw41_StoreHistory.mono_l k
  unfold railplanlaw41_StoreHistory.f
  repeat' first
      | (with_reducible exact ih0 _ _ _ _ _)
      | (with_reducible exact ih1 _ _ _ _ _ _ _ _ _ _)
      | (with_reducible exact ih2 _ _ _ _ _ _ _ _ _ _ _)
      | (with_reducible exact ih3 _ _ _ _ _ _ _ _ _ _)
      | (with_reducible exact ih4 _ _ _ _ _)
      | (with_reducible exact api_Version.mono _ _ _)
      | (with_reducible exact railplanlaw41_awake.mono _)
      | (with_reducible exact railplanlaw41_versions.mono _ _)
      | (with_reducible exact store_Append.mono _ _ _ _)
      | (with_reducible exact store_Get.mono _ _ _)
      | (with_reducible exact store_Scan.mono _ _)
      | (with_reducible exact LeO.refl _)
      | (with_reducible exact LeO.none _)
      | (with_reducible refine LeO.ite ?_ ?_)
      | (with_reducible refine LeO.bind ?_ (fun _ => ?_))
      | exact ih0 _ _ _ _ _
      | exact ih1 _ _ _ _ _ _ _ _ _ _
      | exact ih2 _ _ _ _ _ _ _ _ _ _ _
      | exact ih3 _ _ _ _ _ _ _ _ _ _
      | exact ih4 _ _ _ _ _
      | exact api_Version.mono _ _ _
      | exact railplanlaw41_awake.mono _
      | exact railplanlaw41_versions.mono _ _
      | exact store_Append.mono _ _ _ _
      | exact store_Get.mono _ _ _
      | exact store_Scan.mono _ _
      | exact LeO.none _
      | refine LeO.ite ?_ ?_
      | refine LeO.bind ?_ (fun _ => ?_)
set_option maxHeartbeats 8000000 in
set_option maxRecDepth 100000 in
theorem railplanlaw41_StoreHistory.calls (k : Nat) (A0 : Option Addr) (c0 : Nat) (l0 : List Int) (r : Bool) (w : World) (hr0 : Kd.C (Kd.int .i64) w A0 l0.length l0) (hc0 : l0.length ≤ c0) (hr_ : Aside0 (r = true)) (h : railplanlaw41_StoreHistory.f k l0 = some r) :
    Calls Try.prog 8 #[.slice A0 l0.length c0] w fun e w' => e = .returned (.bool r) ∧ Below w.heap.size w w' := by
  have hu23 := Try.underlying23
  have HR0 := Aside0.mk hr0
  have HC0 := Aside0.mk hc0
  clear hr0 hc0
  have HB := Aside0.mk (Below.refl w.heap.size w)
  have H : ((railplanlaw41_versions.f k l0).bind fun t355 => (railplanlaw41_StoreHistory.l0 k (⟨#[]⟩ : ByteArray) ([] : List (S23)) t355 (t355.length : Int) 0)) = some r := h
  clear h
  replace H := Option.bind_eq_some_iff.mp H
  obtain ⟨t355, A20, H⟩ := H
  replace H : (railplanlaw41_StoreHistory.l0 k (⟨#[]⟩ : ByteArray) ([] : List (S23)) t355 (t355.length : Int) 0) = some r := H
  have A2 := Aside0.mk A20
  clear A20
  have H' := Aside0.mk H
  clear H
  go_enter Try.func8, Try.ntmps8
  go_wp2_with (first | (go_at_call 17; (with_reducible refine (railplanlaw41_versions.calls k _ _ l0 t355 _ ?side1 ?side2 A2.out).mono ?_); (case side1 => repeat (first | exact HR0.out | (with_reducible refine Kd.C_alloc ?_ _) | (with_reducible refine Kd.C_drewN ?_ _) | (with_reducible refine Kd.C_drew ?_))); (case side2 => exact HC0.out); rintro e w3 ⟨v356, rfl, ho0, hb⟩; have n0_ := Aside0.mk (Kd.R_lower ho0 (below_size (by repeat (first | (with_reducible first | exact HB.out | apply below_alloc | apply pw_below_drewN | apply below_drew1) | exact HB.out)))); have n1_ := Aside0.mk (below_step (by repeat (first | (with_reducible first | exact HB.out | apply below_alloc | apply pw_below_drewN | apply below_drew1) | exact HB.out)) hb); clear HB; have HO357 := n0_; have HB := n1_; clear n0_ n1_; (try clear hb); (try clear hb2); (try clear hk); (try clear hi); (try clear ho0); obtain ⟨Ao4, co4, eo4⟩ := Kd.R_slice HO357.out; subst eo4))
  repeat (go_quiet (first | (go_at_call 17; (with_reducible refine (railplanlaw41_versions.calls k _ _ l0 t355 _ ?side1 ?side2 A2.out).mono ?_); (case side1 => repeat (first | exact HR0.out | (with_reducible refine Kd.C_alloc ?_ _) | (with_reducible refine Kd.C_drewN ?_ _) | (with_reducible refine Kd.C_drew ?_))); (case side2 => exact HC0.out); rintro e w3 ⟨v356, rfl, ho0, hb⟩; have n0_ := Aside0.mk (Kd.R_lower ho0 (below_size (by repeat (first | (with_reducible first | exact HB.out | apply below_alloc | apply pw_below_drewN | apply below_drew1) | exact HB.out)))); have n1_ := Aside0.mk (below_step (by repeat (first | (with_reducible first | exact HB.out | apply below_alloc | apply pw_below_drewN | apply below_drew1) | exact HB.out)) hb); clear HB; have HO357 := n0_; have HB := n1_; clear n0_ n1_; (try clear hb); (try clear hb2); (try clear hk); (try clear hi); (try clear ho0); obtain ⟨Ao4, co4, eo4⟩ := Kd.R_slice HO357.out; subst eo4)); try go_wp2_with (first | (go_at_call 17; (with_reducible refine (railplanlaw41_versions.calls k _ _ l0 t355 _ ?side1 ?side2 A2.out).mono ?_); (case side1 => repeat (first | exact HR0.out | (with_reducible refine Kd.C_alloc ?_ _) | (with_reducible refine Kd.C_drewN ?_ _) | (with_reducible refine Kd.C_drew ?_))); (case side2 => exact HC0.out); rintro e w3 ⟨v356, rfl, ho0, hb⟩; have n0_ := Aside0.mk (Kd.R_lower ho0 (below_size (by repeat (first | (with_reducible first | exact HB.out | apply below_alloc | apply pw_below_drewN | apply below_drew1) | exact HB.out)))); have n1_ := Aside0.mk (below_step (by repeat (first | (with_reducible first | exact HB.out | apply below_alloc | apply pw_below_drewN | apply below_drew1) | exact HB.out)) hb); clear HB; have HO357 := n0_; have HB := n1_; clear n0_ n1_; (try clear hb); (try clear hb2); (try clear hk); (try clear hi); (try clear ho0); obtain ⟨Ao4, co4, eo4⟩ := Kd.R_slice HO357.out; subst eo4)))
  go_loopg [4, 5, 21] k (fun kq v4 v5 v21 w' => ∃ (x4_1 : ByteArray) (x5_1 : List (S23)) (x21_1 : Int), v4 = .string x4_1 ∧ v21 = .int .i64 x21_1 ∧ Aside0 (railplanlaw41_StoreHistory.l0 kq x4_1 x5_1 t355 (t355.length : Int) x21_1 = some r) ∧ Aside0 (kq ≤ k) ∧ Aside0 (Kd.R k23 23 w' w.heap.size (fun k_ => some k_ ≠ ((.slice Ao4 t355.length co4) : Value).ownBlock) v5 x5_1) ∧ Aside0 (Kd.R k23 23 w' w.heap.size (fun k_ => some k_ ≠ (v5 : Value).ownBlock) (.slice Ao4 t355.length co4) t355) ∧ Aside0 (Below w.heap.size w w'))
  case atStart => exact ⟨((⟨#[]⟩ : ByteArray)), (([] : List (S23))), (0), (by first | rfl | (simp; done) | (simp [*]; done)), (by first | rfl | (simp; done) | (simp [*]; done)), H', ⟨Nat.le_refl _⟩, ⟨by first | exact Kd.R_nil _ _ _ _ _ | exact Kd.N_nil _ _ _ _ _ | exact Kd.V_nil _ _ _ _ _ | exact Kd.Q_nil _ _ _ _ _ | exact Kd.S_nil _ _ _ _ _⟩, ⟨by (with_reducible repeat (first | apply Kd.R_alloc | apply Kd.R_drewN | apply Kd.R_drew)); exact Kd.R_mono HO357.out (fun _ hk => (by simp [Value.ownBlock]))⟩, ⟨by repeat (first | (with_reducible first | exact HB.out | apply below_alloc | apply pw_below_drewN | apply below_drew1) | exact HB.out)⟩⟩
  case round =>
    clear H'
    try clear p2
    obtain ⟨x4_1, x5_1, x21_1, rfl, rfl, HA, HK1, HO_5, HO_19, HB⟩ := hrel
    cases gk with
    | zero => exact absurd HA.out (by simp [railplanlaw41_StoreHistory.l0])
    | succ k1 =>
      have H := HA.out
      clear HA
      simp only [railplanlaw41_StoreHistory.l0] at H
      by_cases c5 : x21_1 < (t355.length : Int)
      · rw [if_pos c5] at H
        have c5b0 : decide (x21_1 < (t355.length : Int)) = true := decide_eq_true c5
        clear c5
        by_cases c6 : 0 ≤ x21_1
        · rw [if_pos c6] at H
          have c6b0 : decide (0 ≤ x21_1) = true := decide_eq_true c6
          clear c6
          by_cases c7 : x21_1 < (t355.length : Int)
          · rw [if_pos c7] at H
            have c7b0 : decide (x21_1 < (t355.length : Int)) = true := decide_eq_true c7
            clear c7
            replace H := Option.bind_eq_some_iff.mp H
            obtain ⟨⟨t360, t361⟩, A80, H⟩ := H
            replace H : (if ((rd_T23 t355 x21_1).f0) ≥ 1 then (if (x5_1.length : Int) = 0 then (railplanlaw41_StoreHistory.j1 k1 x4_1 x5_1 t360 t361 true t355 (t355.length : Int) x21_1 ((rd_T23 t355 x21_1).f0) ((rd_T23 t355 x21_1).f1)) else (if 0 ≤ (wrap64 ((x5_1.length : Int) - 1)) then (if (wrap64 ((x5_1.length : Int) - 1)) < (x5_1.length : Int) then (railplanlaw41_StoreHistory.j1 k1 x4_1 x5_1 t360 t361 (decide (((rd_T23 t355 x21_1).f0) > ((rd_T23 x5_1 (wrap64 ((x5_1.length : Int) - 1))).f0))) t355 (t355.length : Int) x21_1 ((rd_T23 t355 x21_1).f0) ((rd_T23 t355 x21_1).f1)) else (none)) else (none))) else (railplanlaw41_StoreHistory.j1 k1 x4_1 x5_1 t360 t361 false t355 (t355.length : Int) x21_1 ((rd_T23 t355 x21_1).f0) ((rd_T23 t355 x21_1).f1))) = some r := H
            have A8 := Aside0.mk A80
            clear A80
            have HC9 := Aside0.mk H
            clear H
            have p358 : 0 ≤ (x21_1 : Int) := of_decide_eq_true (by first | (with_reducible assumption) | assumption)
            have q358 : x21_1 < (t355.length : Int) := of_decide_eq_true (by first | (with_reducible assumption) | assumption)
            obtain ⟨ad358, e358, hx358_0, hx358_1⟩ := at_T23 (Kd.R_reads' HO_19.out).2.2 x21_1 p358 q358
            cases e358
            replace p358 := eq_true p358
            replace q358 := eq_true q358
            go_upto_region 8 with (first | ((with_reducible refine gate_dst (N := 7) rfl ?_); refine box_event ?hg (N := 7) ?hd (cs := #[.int .i64 0, .string (⟨#[]⟩ : ByteArray)]) (t := 23) ?hr ?_; (case hd => rfl); (case hg => rfl); (case hr => first | (go_simp; done) | (go_simp; rfl)); intro gb359 hg w10 hbox hb; have n0_ := Aside0.mk (Kd.R_below (Kd.R_elderB (by (with_reducible repeat (first | apply Kd.R_alloc | apply Kd.R_drewN | apply Kd.R_drew)); exact HO_5.out) gb359 (Nat.le_of_eq hg.symm)) hb); have n1_ := Aside0.mk (Kd.R_below (Kd.R_elderB (by (with_reducible repeat (first | apply Kd.R_alloc | apply Kd.R_drewN | apply Kd.R_drew)); exact HO_19.out) gb359 (Nat.le_of_eq hg.symm)) hb); have n2_ := Aside0.mk (below_step (by repeat (first | (with_reducible first | exact HB.out | apply below_alloc | apply pw_below_drewN | apply below_drew1) | exact HB.out)) hb); have n3_ := Aside0.mk (hbox); have n4_ := Aside0.mk ((by rw [hg]; exact (below_size (by repeat (first | (with_reducible first | exact HB.out | apply below_alloc | apply pw_below_drewN | apply below_drew1) | exact HB.out))) : w.heap.size ≤ gb359)); have n5_ := Aside0.mk ((by rw [hg]; exact (below_size (by repeat (first | (with_reducible first | exact HB.out | apply below_alloc | apply pw_below_drewN | apply below_drew1) | exact HB.out))) : w.heap.size ≤ gb359)); clear HO_5; clear HO_19; clear HB; have HO_5 := n0_; have HO_19 := n1_; have HB := n2_; have BK359 := n3_; have GW359 := n4_; have GE359 := n5_; clear n0_ n1_ n2_ n3_ n4_ n5_; clear hb hbox hg; have hcz11_0 : w10.cell? ⟨gb359, 0, none⟩ = some (.int .i64 0) := (blk_cell BK359.out 0).trans rfl; have hcz11_1 : w10.cell? ⟨gb359, 1, none⟩ = some (.string (⟨#[]⟩ : ByteArray)) := (blk_cell BK359.out 1).trans rfl; have hfz11_0 := blk_frozen BK359.out 0; have hfz11_1 := blk_frozen BK359.out 1) | (go_at_call 22; (with_reducible refine (store_Append.calls k1 x4_1 ((rd_T23 t355 x21_1).f0) ((rd_T23 t355 x21_1).f1) t360 t361 _ A8.out).mono ?_); rintro e w12 ⟨rfl, hb⟩; have n0_ := Aside0.mk (Kd.R_below (by (with_reducible repeat (first | apply Kd.R_alloc | apply Kd.R_drewN | apply Kd.R_drew)); exact (Kd.R_mono (Kd.R_far (p := ⟨gb359, 1, none⟩) (Kd.R_far (p := ⟨gb359, 0, none⟩) (Kd.R_mono HO_5.out (fun k_ hk => (⟨hk, hk.2⟩ : _ ∧ k_ ≠ gb359))) (fun _ hk => hk.2) (.int .i64 ((rd_T23 t355 x21_1).f0))) (fun _ hk => hk.2) (.string ((rd_T23 t355 x21_1).f1))) (fun _ h_ => h_.1))) hb); have n1_ := Aside0.mk (Kd.R_below (by (with_reducible repeat (first | apply Kd.R_alloc | apply Kd.R_drewN | apply Kd.R_drew)); exact (Kd.R_mono (Kd.R_far (p := ⟨gb359, 1, none⟩) (Kd.R_far (p := ⟨gb359, 0, none⟩) (Kd.R_mono HO_19.out (fun k_ hk => (⟨hk, hk.2⟩ : _ ∧ k_ ≠ gb359))) (fun _ hk => hk.2) (.int .i64 ((rd_T23 t355 x21_1).f0))) (fun _ hk => hk.2) (.string ((rd_T23 t355 x21_1).f1))) (fun _ h_ => h_.1))) hb); have n2_ := Aside0.mk (blk_below (g := gb359) (o := .cells #[.int .i64 ((rd_T23 t355 x21_1).f0), .string ((rd_T23 t355 x21_1).f1)] 23 (0, 0)) (by (with_reducible repeat (first | refine blk_drewN ?_ _ | refine blk_drew ?_ | refine blk_alloc ?_ _)); refine blk_put (cs := #[.int .i64 ((rd_T23 t355 x21_1).f0), .string (⟨#[]⟩ : ByteArray)]) ?_ 1 _ rfl; (with_reducible repeat (first | refine blk_drewN ?_ _ | refine blk_drew ?_ | refine blk_alloc ?_ _)); refine blk_put (cs := #[.int .i64 0, .string (⟨#[]⟩ : ByteArray)]) ?_ 0 _ rfl; (with_reducible repeat (first | refine blk_drewN ?_ _ | refine blk_drew ?_ | refine blk_alloc ?_ _)); exact BK359.out) hb); have n3_ := Aside0.mk (below_step (by repeat (first | (with_reducible first | exact HB.out | apply below_alloc | apply pw_below_drewN | apply below_drew1 | refine below_set ?_ GE359.out) | exact HB.out)) hb); clear HO_5; clear HO_19; clear BK359; clear HB; have HO_5 := n0_; have HO_19 := n1_; have BK359 := n2_; have HB := n3_; clear n0_ n1_ n2_ n3_; (try clear hb); (try clear hb2); (try clear hk); (try clear hi)))
            repeat (go_quiet (first | ((with_reducible refine gate_dst (N := 7) rfl ?_); refine box_event ?hg (N := 7) ?hd (cs := #[.int .i64 0, .string (⟨#[]⟩ : ByteArray)]) (t := 23) ?hr ?_; (case hd => rfl); (case hg => rfl); (case hr => first | (go_simp; done) | (go_simp; rfl)); intro gb359 hg w10 hbox hb; have n0_ := Aside0.mk (Kd.R_below (Kd.R_elderB (by (with_reducible repeat (first | apply Kd.R_alloc | apply Kd.R_drewN | apply Kd.R_drew)); exact HO_5.out) gb359 (Nat.le_of_eq hg.symm)) hb); have n1_ := Aside0.mk (Kd.R_below (Kd.R_elderB (by (with_reducible repeat (first | apply Kd.R_alloc | apply Kd.R_drewN | apply Kd.R_drew)); exact HO_19.out) gb359 (Nat.le_of_eq hg.symm)) hb); have n2_ := Aside0.mk (below_step (by repeat (first | (with_reducible first | exact HB.out | apply below_alloc | apply pw_below_drewN | apply below_drew1) | exact HB.out)) hb); have n3_ := Aside0.mk (hbox); have n4_ := Aside0.mk ((by rw [hg]; exact (below_size (by repeat (first | (with_reducible first | exact HB.out | apply below_alloc | apply pw_below_drewN | apply below_drew1) | exact HB.out))) : w.heap.size ≤ gb359)); have n5_ := Aside0.mk ((by rw [hg]; exact (below_size (by repeat (first | (with_reducible first | exact HB.out | apply below_alloc | apply pw_below_drewN | apply below_drew1) | exact HB.out))) : w.heap.size ≤ gb359)); clear HO_5; clear HO_19; clear HB; have HO_5 := n0_; have HO_19 := n1_; have HB := n2_; have BK359 := n3_; have GW359 := n4_; have GE359 := n5_; clear n0_ n1_ n2_ n3_ n4_ n5_; clear hb hbox hg; have hcz11_0 : w10.cell? ⟨gb359, 0, none⟩ = some (.int .i64 0) := (blk_cell BK359.out 0).trans rfl; have hcz11_1 : w10.cell? ⟨gb359, 1, none⟩ = some (.string (⟨#[]⟩ : ByteArray)) := (blk_cell BK359.out 1).trans rfl; have hfz11_0 := blk_frozen BK359.out 0; have hfz11_1 := blk_frozen BK359.out 1) | (go_at_call 22; (with_reducible refine (store_Append.calls k1 x4_1 ((rd_T23 t355 x21_1).f0) ((rd_T23 t355 x21_1).f1) t360 t361 _ A8.out).mono ?_); rintro e w12 ⟨rfl, hb⟩; have n0_ := Aside0.mk (Kd.R_below (by (with_reducible repeat (first | apply Kd.R_alloc | apply Kd.R_drewN | apply Kd.R_drew)); exact (Kd.R_mono (Kd.R_far (p := ⟨gb359, 1, none⟩) (Kd.R_far (p := ⟨gb359, 0, none⟩) (Kd.R_mono HO_5.out (fun k_ hk => (⟨hk, hk.2⟩ : _ ∧ k_ ≠ gb359))) (fun _ hk => hk.2) (.int .i64 ((rd_T23 t355 x21_1).f0))) (fun _ hk => hk.2) (.string ((rd_T23 t355 x21_1).f1))) (fun _ h_ => h_.1))) hb); have n1_ := Aside0.mk (Kd.R_below (by (with_reducible repeat (first | apply Kd.R_alloc | apply Kd.R_drewN | apply Kd.R_drew)); exact (Kd.R_mono (Kd.R_far (p := ⟨gb359, 1, none⟩) (Kd.R_far (p := ⟨gb359, 0, none⟩) (Kd.R_mono HO_19.out (fun k_ hk => (⟨hk, hk.2⟩ : _ ∧ k_ ≠ gb359))) (fun _ hk => hk.2) (.int .i64 ((rd_T23 t355 x21_1).f0))) (fun _ hk => hk.2) (.string ((rd_T23 t355 x21_1).f1))) (fun _ h_ => h_.1))) hb); have n2_ := Aside0.mk (blk_below (g := gb359) (o := .cells #[.int .i64 ((rd_T23 t355 x21_1).f0), .string ((rd_T23 t355 x21_1).f1)] 23 (0, 0)) (by (with_reducible repeat (first | refine blk_drewN ?_ _ | refine blk_drew ?_ | refine blk_alloc ?_ _)); refine blk_put (cs := #[.int .i64 ((rd_T23 t355 x21_1).f0), .string (⟨#[]⟩ : ByteArray)]) ?_ 1 _ rfl; (with_reducible repeat (first | refine blk_drewN ?_ _ | refine blk_drew ?_ | refine blk_alloc ?_ _)); refine blk_put (cs := #[.int .i64 0, .string (⟨#[]⟩ : ByteArray)]) ?_ 0 _ rfl; (with_reducible repeat (first | refine blk_drewN ?_ _ | refine blk_drew ?_ | refine blk_alloc ?_ _)); exact BK359.out) hb); have n3_ := Aside0.mk (below_step (by repeat (first | (with_reducible first | exact HB.out | apply below_alloc | apply pw_below_drewN | apply below_drew1 | refine below_set ?_ GE359.out) | exact HB.out)) hb); clear HO_5; clear HO_19; clear BK359; clear HB; have HO_5 := n0_; have HO_19 := n1_; have BK359 := n2_; have HB := n3_; clear n0_ n1_ n2_ n3_; (try clear hb); (try clear hb2); (try clear hk); (try clear hi))); go_upto_region 8 with (first | ((with_reducible refine gate_dst (N := 7) rfl ?_); refine box_event ?hg (N := 7) ?hd (cs := #[.int .i64 0, .string (⟨#[]⟩ : ByteArray)]) (t := 23) ?hr ?_; (case hd => rfl); (case hg => rfl); (case hr => first | (go_simp; done) | (go_simp; rfl)); intro gb359 hg w10 hbox hb; have n0_ := Aside0.mk (Kd.R_below (Kd.R_elderB (by (with_reducible repeat (first | apply Kd.R_alloc | apply Kd.R_drewN | apply Kd.R_drew)); exact HO_5.out) gb359 (Nat.le_of_eq hg.symm)) hb); have n1_ := Aside0.mk (Kd.R_below (Kd.R_elderB (by (with_reducible repeat (first | apply Kd.R_alloc | apply Kd.R_drewN | apply Kd.R_drew)); exact HO_19.out) gb359 (Nat.le_of_eq hg.symm)) hb); have n2_ := Aside0.mk (below_step (by repeat (first | (with_reducible first | exact HB.out | apply below_alloc | apply pw_below_drewN | apply below_drew1) | exact HB.out)) hb); have n3_ := Aside0.mk (hbox); have n4_ := Aside0.mk ((by rw [hg]; exact (below_size (by repeat (first | (with_reducible first | exact HB.out | apply below_alloc | apply pw_below_drewN | apply below_drew1) | exact HB.out))) : w.heap.size ≤ gb359)); have n5_ := Aside0.mk ((by rw [hg]; exact (below_size (by repeat (first | (with_reducible first | exact HB.out | apply below_alloc | apply pw_below_drewN | apply below_drew1) | exact HB.out))) : w.heap.size ≤ gb359)); clear HO_5; clear HO_19; clear HB; have HO_5 := n0_; have HO_19 := n1_; have HB := n2_; have BK359 := n3_; have GW359 := n4_; have GE359 := n5_; clear n0_ n1_ n2_ n3_ n4_ n5_; clear hb hbox hg; have hcz11_0 : w10.cell? ⟨gb359, 0, none⟩ = some (.int .i64 0) := (blk_cell BK359.out 0).trans rfl; have hcz11_1 : w10.cell? ⟨gb359, 1, none⟩ = some (.string (⟨#[]⟩ : ByteArray)) := (blk_cell BK359.out 1).trans rfl; have hfz11_0 := blk_frozen BK359.out 0; have hfz11_1 := blk_frozen BK359.out 1) | (go_at_call 22; (with_reducible refine (store_Append.calls k1 x4_1 ((rd_T23 t355 x21_1).f0) ((rd_T23 t355 x21_1).f1) t360 t361 _ A8.out).mono ?_); rintro e w12 ⟨rfl, hb⟩; have n0_ := Aside0.mk (Kd.R_below (by (with_reducible repeat (first | apply Kd.R_alloc | apply Kd.R_drewN | apply Kd.R_drew)); exact (Kd.R_mono (Kd.R_far (p := ⟨gb359, 1, none⟩) (Kd.R_far (p := ⟨gb359, 0, none⟩) (Kd.R_mono HO_5.out (fun k_ hk => (⟨hk, hk.2⟩ : _ ∧ k_ ≠ gb359))) (fun _ hk => hk.2) (.int .i64 ((rd_T23 t355 x21_1).f0))) (fun _ hk => hk.2) (.string ((rd_T23 t355 x21_1).f1))) (fun _ h_ => h_.1))) hb); have n1_ := Aside0.mk (Kd.R_below (by (with_reducible repeat (first | apply Kd.R_alloc | apply Kd.R_drewN | apply Kd.R_drew)); exact (Kd.R_mono (Kd.R_far (p := ⟨gb359, 1, none⟩) (Kd.R_far (p := ⟨gb359, 0, none⟩) (Kd.R_mono HO_19.out (fun k_ hk => (⟨hk, hk.2⟩ : _ ∧ k_ ≠ gb359))) (fun _ hk => hk.2) (.int .i64 ((rd_T23 t355 x21_1).f0))) (fun _ hk => hk.2) (.string ((rd_T23 t355 x21_1).f1))) (fun _ h_ => h_.1))) hb); have n2_ := Aside0.mk (blk_below (g := gb359) (o := .cells #[.int .i64 ((rd_T23 t355 x21_1).f0), .string ((rd_T23 t355 x21_1).f1)] 23 (0, 0)) (by (with_reducible repeat (first | refine blk_drewN ?_ _ | refine blk_drew ?_ | refine blk_alloc ?_ _)); refine blk_put (cs := #[.int .i64 ((rd_T23 t355 x21_1).f0), .string (⟨#[]⟩ : ByteArray)]) ?_ 1 _ rfl; (with_reducible repeat (first | refine blk_drewN ?_ _ | refine blk_drew ?_ | refine blk_alloc ?_ _)); refine blk_put (cs := #[.int .i64 0, .string (⟨#[]⟩ : ByteArray)]) ?_ 0 _ rfl; (with_reducible repeat (first | refine blk_drewN ?_ _ | refine blk_drew ?_ | refine blk_alloc ?_ _)); exact BK359.out) hb); have n3_ := Aside0.mk (below_step (by repeat (first | (with_reducible first | exact HB.out | apply below_alloc | apply pw_below_drewN | apply below_drew1 | refine below_set ?_ GE359.out) | exact HB.out)) hb); clear HO_5; clear HO_19; clear BK359; clear HB; have HO_5 := n0_; have HO_19 := n1_; have BK359 := n2_; have HB := n3_; clear n0_ n1_ n2_ n3_; (try clear hb); (try clear hb2); (try clear hk); (try clear hi))))
            (try simp only [Act.put, List.setIfInBounds_toArray, List.set_cons_zero, List.set_cons_succ])
            go_cut [10] (fun v10 wc => ∃ (kq : Nat) (x10_8 : Bool), v10 = .bool x10_8 ∧ Aside0 (railplanlaw41_StoreHistory.j1 kq x4_1 x5_1 t360 t361 x10_8 t355 (t355.length : Int) x21_1 ((rd_T23 t355 x21_1).f0) ((rd_T23 t355 x21_1).f1) = some r) ∧ Aside0 (kq ≤ k1) ∧ Aside0 (Kd.R k23 23 wc w.heap.size (fun k_ => some k_ ≠ ((.slice (some ad358) t355.length co4) : Value).ownBlock ∧ k_ ≠ gb359) u5 x5_1) ∧ Aside0 (Kd.R k23 23 wc w.heap.size (fun k_ => some k_ ≠ (u5 : Value).ownBlock ∧ k_ ≠ gb359) (.slice (some ad358) t355.length co4) t355) ∧ Aside0 (wc.heap[gb359]? = some (.cells #[.int .i64 ((rd_T23 t355 x21_1).f0), .string ((rd_T23 t355 x21_1).f1)] 23 (0, 0))) ∧ Aside0 (Below w.heap.size w wc))
            case first =>
              have H := HC9.out
              clear HC9
              by_cases c13 : ((rd_T23 t355 x21_1).f0) ≥ 1
              · rw [if_pos c13] at H
                have c13b0 : decide (1 ≤ ((rd_T23 t355 x21_1).f0)) = true := decide_eq_true c13
                clear c13
                (first | rw [c13b0] | (simp only [i64_w, i32_w]; rw [c13b0]) | rw [c13b1] | skip)
                by_cases c14 : (x5_1.length : Int) = 0
                · rw [if_pos c14] at H
                  have c14b0 : ((x5_1.length : Int) == 0) = true := beq_iff_eq.mpr c14
                  have c14b1 : ((x5_1.length : Int) != 0) = false := bne_eq_false_iff_eq.mpr c14
                  clear c14
                  have H' := Aside0.mk H
                  clear H
                  have hcz15_0 : w12.cell? ⟨gb359, 0, none⟩ = some (.int .i64 ((rd_T23 t355 x21_1).f0)) := (blk_cell BK359.out 0).trans rfl
                  have hcz15_1 : w12.cell? ⟨gb359, 1, none⟩ = some (.string ((rd_T23 t355 x21_1).f1)) := (blk_cell BK359.out 1).trans rfl
                  have hfz15_0 := blk_frozen BK359.out 0
                  have hfz15_1 := blk_frozen BK359.out 1
                  obtain ⟨Ao16, co16, eo16⟩ := Kd.R_slice HO_5.out
                  subst eo16
                  go_wp2
                  repeat (go_quiet (fail); try go_wp2)
                  go_meet
                  case rel => exact ⟨_, (true), (by first | rfl | (simp; done) | (simp [*]; done)), H', ⟨by have := HK1.out; first | omega | exact Nat.le_refl _⟩, ⟨by (with_reducible repeat (first | apply Kd.R_alloc | apply Kd.R_drewN | apply Kd.R_drew)); exact HO_5.out⟩, ⟨by (with_reducible repeat (first | apply Kd.R_alloc | apply Kd.R_drewN | apply Kd.R_drew)); exact HO_19.out⟩, ⟨by (with_reducible repeat (first | refine blk_drewN ?_ _ | refine blk_drew ?_ | refine blk_alloc ?_ _)); exact BK359.out⟩, ⟨by repeat (first | (with_reducible first | exact HB.out | apply below_alloc | apply pw_below_drewN | apply below_drew1 | refine below_set ?_ GE359.out) | exact HB.out)⟩⟩
                · rw [if_neg c14] at H
                  have c14b0 : ((x5_1.length : Int) == 0) = false := beq_eq_false_iff_ne.mpr c14
                  have c14b1 : ((x5_1.length : Int) != 0) = true := bne_iff_ne.mpr c14
                  have c14b2 : ¬ (x5_1 = []) := fun h_ => c14 (by rw [h_]; rfl)
                  obtain ⟨ji17, hji17⟩ : ∃ j_ : Int, (wrap64 ((x5_1.length : Int) - 1)) = j_ := ⟨_, rfl⟩
                  replace H : (if 0 ≤ (ji17) then (if (ji17) < (x5_1.length : Int) then (railplanlaw41_StoreHistory.j1 k1 x4_1 x5_1 t360 t361 (decide (((rd_T23 t355 x21_1).f0) > ((rd_T23 x5_1 (ji17)).f0))) t355 (t355.length : Int) x21_1 ((rd_T23 t355 x21_1).f0) ((rd_T23 t355 x21_1).f1)) else (none)) else (none)) = some r := by first | (rw [hji17] at H; exact H) | (simp only [hji17] at H ⊢; exact H)
                  have hji17w : (IntKind.i64.wrap ((x5_1.length : Int) - 1)) = ji17 := (i64_w _).trans hji17
                  by_cases c18 : 0 ≤ (ji17)
                  · rw [if_pos c18] at H
                    have c18b0 : decide (0 ≤ (ji17)) = true := decide_eq_true c18
                    clear c18
                    by_cases c19 : (ji17) < (x5_1.length : Int)
                    · rw [if_pos c19] at H
                      have c19b0 : decide ((ji17) < (x5_1.length : Int)) = true := decide_eq_true c19
                      clear c19
                      have H' := Aside0.mk H
                      clear H
                      have hcz20_0 : w12.cell? ⟨gb359, 0, none⟩ = some (.int .i64 ((rd_T23 t355 x21_1).f0)) := (blk_cell BK359.out 0).trans rfl
                      have hcz20_1 : w12.cell? ⟨gb359, 1, none⟩ = some (.string ((rd_T23 t355 x21_1).f1)) := (blk_cell BK359.out 1).trans rfl
                      have hfz20_0 := blk_frozen BK359.out 0
                      have hfz20_1 := blk_frozen BK359.out 1
                      obtain ⟨Ao21, co21, eo21⟩ := Kd.R_slice HO_5.out
                      subst eo21
                      have p362 : 0 ≤ ((ji17) : Int) := of_decide_eq_true (by first | (with_reducible assumption) | assumption)
                      have q362 : (ji17) < (x5_1.length : Int) := of_decide_eq_true (by first | (with_reducible assumption) | assumption)
                      obtain ⟨ad362, e362, hx362_0, hx362_1⟩ := at_T23 (Kd.R_reads' HO_5.out).2.2 (ji17) p362 q362
                      cases e362
                      replace p362 := eq_true p362
                      replace q362 := eq_true q362
                      go_wp2
                      repeat (go_quiet (fail); try go_wp2)
                      go_meet
                      case rel => exact ⟨_, (decide (((rd_T23 t355 x21_1).f0) > ((rd_T23 x5_1 (ji17)).f0))), (by first | rfl | (simp; done) | (simp only [← hji17] <;> (first | rfl | simp)) | (simp [*]; done)), H', ⟨by have := HK1.out; first | omega | exact Nat.le_refl _⟩, ⟨by (with_reducible repeat (first | apply Kd.R_alloc | apply Kd.R_drewN | apply Kd.R_drew)); exact HO_5.out⟩, ⟨by (with_reducible repeat (first | apply Kd.R_alloc | apply Kd.R_drewN | apply Kd.R_drew)); exact HO_19.out⟩, ⟨by (with_reducible repeat (first | refine blk_drewN ?_ _ | refine blk_drew ?_ | refine blk_alloc ?_ _)); exact BK359.out⟩, ⟨by repeat (first | (with_reducible first | exact HB.out | apply below_alloc | apply pw_below_drewN | apply below_drew1 | refine below_set ?_ GE359.out) | exact HB.out)⟩⟩
                    · rw [if_neg c19] at H
                      exact absurd H (by simp)
                  · rw [if_neg c18] at H
                    exact absurd H (by simp)
              · rw [if_neg c13] at H
                have c13b0 : decide (1 ≤ ((rd_T23 t355 x21_1).f0)) = false := decide_eq_false c13
                clear c13
                (first | rw [c13b0] | (simp only [i64_w, i32_w]; rw [c13b0]) | rw [c13b1] | skip)
                have H' := Aside0.mk H
                clear H
                have hcz22_0 : w12.cell? ⟨gb359, 0, none⟩ = some (.int .i64 ((rd_T23 t355 x21_1).f0)) := (blk_cell BK359.out 0).trans rfl
                have hcz22_1 : w12.cell? ⟨gb359, 1, none⟩ = some (.string ((rd_T23 t355 x21_1).f1)) := (blk_cell BK359.out 1).trans rfl
                have hfz22_0 := blk_frozen BK359.out 0
                have hfz22_1 := blk_frozen BK359.out 1
                go_wp2
                repeat (go_quiet (fail); try go_wp2)
                go_meet
                case rel => exact ⟨_, (false), (by first | rfl | (simp; done) | (simp [*]; done)), H', ⟨by have := HK1.out; first | omega | exact Nat.le_refl _⟩, ⟨by (with_reducible repeat (first | apply Kd.R_alloc | apply Kd.R_drewN | apply Kd.R_drew)); exact HO_5.out⟩, ⟨by (with_reducible repeat (first | apply Kd.R_alloc | apply Kd.R_drewN | apply Kd.R_drew)); exact HO_19.out⟩, ⟨by (with_reducible repeat (first | refine blk_drewN ?_ _ | refine blk_drew ?_ | refine blk_alloc ?_ _)); exact BK359.out⟩, ⟨by repeat (first | (with_reducible first | exact HB.out | apply below_alloc | apply pw_below_drewN | apply below_drew1 | refine below_set ?_ GE359.out) | exact HB.out)⟩⟩
            case rest =>
              clear HC9
              try clear c1
              try clear p2
              try clear p3
              try clear q3
              try clear hx3
              try clear c5
              try clear c5b0
              try clear c6
              try clear c6b0
              try clear p6
              try clear c7
              try clear c7b0
              try clear c8
              try clear c13
              try clear c13b0
              try clear c13b1
              try clear c14
              try clear c14b0
              try clear c14b1
              try clear c14b2
              try clear c18
              try clear c18b0
              try clear c19
              try clear c19b0
              try clear hcz11_0
              try clear hcz11_1
              try clear hcz15_0
              try clear hcz15_1
              try clear hcz20_0
              try clear hcz20_1
              try clear hcz22_0
              try clear hcz22_1
              try clear hfz11_0
              try clear hfz11_1
              try clear hfz15_0
              try clear hfz15_1
              try clear hfz20_0
              try clear hfz20_1
              try clear hfz22_0
              try clear hfz22_1
              try clear hx358_0
              try clear hx358_1
              try clear hx362_0
              try clear hx362_1
              try clear p2
              try clear p358
              try clear p362
              try clear q358
              try clear q362
              obtain ⟨kq, x10_8, rfl, HA, HJ8, HO_5, HO_19, BK359, HB⟩ := hcut
              cases kq with
              | zero => exact absurd HA.out (by simp [railplanlaw41_StoreHistory.j1])
              | succ kj8 =>
                have H := HA.out
                clear HA
                simp only [railplanlaw41_StoreHistory.j1] at H
                have HC23 := Aside0.mk H
                clear H
                go_upto_region 9 with (fail)
                repeat (go_quiet (fail); go_upto_region 9 with (fail))
                go_cut [51] (fun v51 wc => ∃ (kq : Nat) (x51_22 : Bool), v51 = .bool x51_22 ∧ Aside0 (railplanlaw41_StoreHistory.j2 kq x4_1 x5_1 t360 t361 x10_8 t355 (t355.length : Int) x21_1 x51_22 ((rd_T23 t355 x21_1).f0) ((rd_T23 t355 x21_1).f1) = some r) ∧ Aside0 (kq ≤ kj8) ∧ Aside0 (Kd.R k23 23 wc w.heap.size (fun k_ => some k_ ≠ ((.slice (some ad358) t355.length co4) : Value).ownBlock ∧ k_ ≠ gb359) u5 x5_1) ∧ Aside0 (Kd.R k23 23 wc w.heap.size (fun k_ => some k_ ≠ (u5 : Value).ownBlock ∧ k_ ≠ gb359) (.slice (some ad358) t355.length co4) t355) ∧ Aside0 (wc.heap[gb359]? = some (.cells #[.int .i64 ((rd_T23 t355 x21_1).f0), .string ((rd_T23 t355 x21_1).f1)] 23 (0, 0))) ∧ Aside0 (Below w.heap.size w wc))
                case first =>
                  have H := HC23.out
                  clear HC23
                  by_cases c24 : x10_8 = true
                  · subst c24
                    have H1 : (railplanlaw41_StoreHistory.j2 kj8 x4_1 x5_1 t360 t361 true t355 (t355.length : Int) x21_1 (t361 != 0) ((rd_T23 t355 x21_1).f0) ((rd_T23 t355 x21_1).f1)) = some r := by rw [if_pos rfl] at H; exact H
                    clear H
                    have H := H1
                    clear H1
                    have H' := Aside0.mk H
                    clear H
                    go_wp2
                    repeat (go_quiet (fail); try go_wp2)
                    go_meet
                    case rel => exact ⟨_, ((t361 != 0)), (by first | rfl | (simp; done) | (simp [*]; done)), H', ⟨by have := HK1.out; have := HJ8.out; first | omega | exact Nat.le_refl _⟩, ⟨by (with_reducible repeat (first | apply Kd.R_alloc | apply Kd.R_drewN | apply Kd.R_drew)); exact HO_5.out⟩, ⟨by (with_reducible repeat (first | apply Kd.R_alloc | apply Kd.R_drewN | apply Kd.R_drew)); exact HO_19.out⟩, ⟨by (with_reducible repeat (first | refine blk_drewN ?_ _ | refine blk_drew ?_ | refine blk_alloc ?_ _)); exact BK359.out⟩, ⟨by repeat (first | (with_reducible first | exact HB.out | apply below_alloc | apply pw_below_drewN | apply below_drew1 | refine below_set ?_ GE359.out) | exact HB.out)⟩⟩
                  · replace c24 := Bool.eq_false_iff.mpr c24
                    subst c24
                    have H1 : (railplanlaw41_StoreHistory.j2 kj8 x4_1 x5_1 t360 t361 false t355 (t355.length : Int) x21_1 false ((rd_T23 t355 x21_1).f0) ((rd_T23 t355 x21_1).f1)) = some r := by rw [if_neg (show ¬ (false = true) by decide)] at H; exact H
                    clear H
                    have H := H1
                    clear H1
                    have H' := Aside0.mk H
                    clear H
                    go_wp2
                    repeat (go_quiet (fail); try go_wp2)
                    go_meet
                    case rel => exact ⟨_, (false), (by first | rfl | (simp; done) | (simp [*]; done)), H', ⟨by have := HK1.out; have := HJ8.out; first | omega | exact Nat.le_refl _⟩, ⟨by (with_reducible repeat (first | apply Kd.R_alloc | apply Kd.R_drewN | apply Kd.R_drew)); exact HO_5.out⟩, ⟨by (with_reducible repeat (first | apply Kd.R_alloc | apply Kd.R_drewN | apply Kd.R_drew)); exact HO_19.out⟩, ⟨by (with_reducible repeat (first | refine blk_drewN ?_ _ | refine blk_drew ?_ | refine blk_alloc ?_ _)); exact BK359.out⟩, ⟨by repeat (first | (with_reducible first | exact HB.out | apply below_alloc | apply pw_below_drewN | apply below_drew1 | refine below_set ?_ GE359.out) | exact HB.out)⟩⟩
                case rest =>
                  clear HC23
                  try clear c1
                  try clear c2
                  try clear p2
                  try clear p3
                  try clear q3
                  try clear hx3
                  try clear c5
                  try clear c5b0
                  try clear c6
                  try clear c6b0
                  try clear p6
                  try clear c7
                  try clear c7b0
                  try clear c8
                  try clear c13
                  try clear c13b0
                  try clear c13b1
                  try clear c14
                  try clear c14b0
                  try clear c14b1
                  try clear c14b2
                  try clear c18
                  try clear c18b0
                  try clear c19
                  try clear c19b0
                  try clear c24
                  try clear hcz11_0
                  try clear hcz11_1
                  try clear hcz15_0
                  try clear hcz15_1
                  try clear hcz20_0
                  try clear hcz20_1
                  try clear hcz22_0
                  try clear hcz22_1
                  try clear hfz11_0
                  try clear hfz11_1
                  try clear hfz15_0
                  try clear hfz15_1
                  try clear hfz20_0
                  try clear hfz20_1
                  try clear hfz22_0
                  try clear hfz22_1
                  try clear hx358_0
                  try clear hx358_1
                  try clear hx362_0
                  try clear hx362_1
                  try clear p2
                  try clear p3
                  try clear p358
                  try clear p362
                  try clear p6
                  try clear q3
                  try clear q358
                  try clear q362
                  obtain ⟨kq, x51_22, rfl, HA, HJ22, HO_5, HO_19, BK359, HB⟩ := hcut
                  cases kq with
                  | zero => exact absurd HA.out (by simp [railplanlaw41_StoreHistory.j2])
                  | succ kj22 =>
                    have H := HA.out
                    clear HA
                    simp only [railplanlaw41_StoreHistory.j2] at H
                    have HC25 := Aside0.mk H
                    clear H
                    go_upto_if 51 with (fail)
                    repeat (go_quiet (fail); go_upto_if 51 with (fail))
                    go_cut [51] (fun v51 wc => ∃ (kq : Nat) (x51_24 : Bool), v51 = .bool x51_24 ∧ Aside0 (railplanlaw41_StoreHistory.j3 kq x4_1 x5_1 t360 x10_8 t355 (t355.length : Int) x21_1 x51_24 ((rd_T23 t355 x21_1).f0) ((rd_T23 t355 x21_1).f1) = some r) ∧ Aside0 (kq ≤ kj22) ∧ Aside0 (Kd.R k23 23 wc w.heap.size (fun k_ => some k_ ≠ ((.slice (some ad358) t355.length co4) : Value).ownBlock ∧ k_ ≠ gb359) u5 x5_1) ∧ Aside0 (Kd.R k23 23 wc w.heap.size (fun k_ => some k_ ≠ (u5 : Value).ownBlock ∧ k_ ≠ gb359) (.slice (some ad358) t355.length co4) t355) ∧ Aside0 (wc.heap[gb359]? = some (.cells #[.int .i64 ((rd_T23 t355 x21_1).f0), .string ((rd_T23 t355 x21_1).f1)] 23 (0, 0))) ∧ Aside0 (Below w.heap.size w wc))
                    case first =>
                      have H := HC25.out
                      clear HC25
                      by_cases c26 : x51_22 = true
                      · subst c26
                        have H1 : (railplanlaw41_StoreHistory.j3 kj22 x4_1 x5_1 t360 x10_8 t355 (t355.length : Int) x21_1 true ((rd_T23 t355 x21_1).f0) ((rd_T23 t355 x21_1).f1)) = some r := by rw [if_pos rfl] at H; exact H
                        clear H
                        have H := H1
                        clear H1
                        have H' := Aside0.mk H
                        clear H
                        go_wp2
                        repeat (go_quiet (fail); try go_wp2)
                        go_meet
                        case rel => exact ⟨_, (true), (by first | rfl | (simp; done) | (simp [*]; done)), H', ⟨by have := HK1.out; have := HJ8.out; have := HJ22.out; first | omega | exact Nat.le_refl _⟩, ⟨by (with_reducible repeat (first | apply Kd.R_alloc | apply Kd.R_drewN | apply Kd.R_drew)); exact HO_5.out⟩, ⟨by (with_reducible repeat (first | apply Kd.R_alloc | apply Kd.R_drewN | apply Kd.R_drew)); exact HO_19.out⟩, ⟨by (with_reducible repeat (first | refine blk_drewN ?_ _ | refine blk_drew ?_ | refine blk_alloc ?_ _)); exact BK359.out⟩, ⟨by repeat (first | (with_reducible first | exact HB.out | apply below_alloc | apply pw_below_drewN | apply below_drew1 | refine below_set ?_ GE359.out) | exact HB.out)⟩⟩
                      · replace c26 := Bool.eq_false_iff.mpr c26
                        subst c26
                        have H1 : (if x10_8 = true then (railplanlaw41_StoreHistory.j3 kj22 x4_1 x5_1 t360 x10_8 t355 (t355.length : Int) x21_1 false ((rd_T23 t355 x21_1).f0) ((rd_T23 t355 x21_1).f1)) else (if ((rd_T23 t355 x21_1).f0) < 1 then (if t361 = 4 then (if ((rd_T23 t355 x21_1).f0) ≥ 1 then (railplanlaw41_StoreHistory.j3 kj22 x4_1 x5_1 t360 x10_8 t355 (t355.length : Int) x21_1 (t361 != 20) ((rd_T23 t355 x21_1).f0) ((rd_T23 t355 x21_1).f1)) else (railplanlaw41_StoreHistory.j3 kj22 x4_1 x5_1 t360 x10_8 t355 (t355.length : Int) x21_1 false ((rd_T23 t355 x21_1).f0) ((rd_T23 t355 x21_1).f1))) else (railplanlaw41_StoreHistory.j3 kj22 x4_1 x5_1 t360 x10_8 t355 (t355.length : Int) x21_1 (t361 != 4) ((rd_T23 t355 x21_1).f0) ((rd_T23 t355 x21_1).f1))) else (if ((rd_T23 t355 x21_1).f0) ≥ 1 then (railplanlaw41_StoreHistory.j3 kj22 x4_1 x5_1 t360 x10_8 t355 (t355.length : Int) x21_1 (t361 != 20) ((rd_T23 t355 x21_1).f0) ((rd_T23 t355 x21_1).f1)) else (railplanlaw41_StoreHistory.j3 kj22 x4_1 x5_1 t360 x10_8 t355 (t355.length : Int) x21_1 false ((rd_T23 t355 x21_1).f0) ((rd_T23 t355 x21_1).f1))))) = some r := by rw [if_neg (show ¬ (false = true) by decide)] at H; exact H
                        clear H
                        have H := H1
                        clear H1
                        by_cases c27 : x10_8 = true
                        · subst c27
                          have H1 : (railplanlaw41_StoreHistory.j3 kj22 x4_1 x5_1 t360 true t355 (t355.length : Int) x21_1 false ((rd_T23 t355 x21_1).f0) ((rd_T23 t355 x21_1).f1)) = some r := by rw [if_pos rfl] at H; exact H
                          clear H
                          have H := H1
                          clear H1
                          have H' := Aside0.mk H
                          clear H
                          go_wp2
                          repeat (go_quiet (fail); try go_wp2)
                          go_meet
                          case rel => exact ⟨_, (false), (by first | rfl | (simp; done) | (simp [*]; done)), H', ⟨by have := HK1.out; have := HJ8.out; have := HJ22.out; first | omega | exact Nat.le_refl _⟩, ⟨by (with_reducible repeat (first | apply Kd.R_alloc | apply Kd.R_drewN | apply Kd.R_drew)); exact HO_5.out⟩, ⟨by (with_reducible repeat (first | apply Kd.R_alloc | apply Kd.R_drewN | apply Kd.R_drew)); exact HO_19.out⟩, ⟨by (with_reducible repeat (first | refine blk_drewN ?_ _ | refine blk_drew ?_ | refine blk_alloc ?_ _)); exact BK359.out⟩, ⟨by repeat (first | (with_reducible first | exact HB.out | apply below_alloc | apply pw_below_drewN | apply below_drew1 | refine below_set ?_ GE359.out) | exact HB.out)⟩⟩
                        · replace c27 := Bool.eq_false_iff.mpr c27
                          subst c27
                          have H1 : (if ((rd_T23 t355 x21_1).f0) < 1 then (if t361 = 4 then (if ((rd_T23 t355 x21_1).f0) ≥ 1 then (railplanlaw41_StoreHistory.j3 kj22 x4_1 x5_1 t360 false t355 (t355.length : Int) x21_1 (t361 != 20) ((rd_T23 t355 x21_1).f0) ((rd_T23 t355 x21_1).f1)) else (railplanlaw41_StoreHistory.j3 kj22 x4_1 x5_1 t360 false t355 (t355.length : Int) x21_1 false ((rd_T23 t355 x21_1).f0) ((rd_T23 t355 x21_1).f1))) else (railplanlaw41_StoreHistory.j3 kj22 x4_1 x5_1 t360 false t355 (t355.length : Int) x21_1 (t361 != 4) ((rd_T23 t355 x21_1).f0) ((rd_T23 t355 x21_1).f1))) else (if ((rd_T23 t355 x21_1).f0) ≥ 1 then (railplanlaw41_StoreHistory.j3 kj22 x4_1 x5_1 t360 false t355 (t355.length : Int) x21_1 (t361 != 20) ((rd_T23 t355 x21_1).f0) ((rd_T23 t355 x21_1).f1)) else (railplanlaw41_StoreHistory.j3 kj22 x4_1 x5_1 t360 false t355 (t355.length : Int) x21_1 false ((rd_T23 t355 x21_1).f0) ((rd_T23 t355 x21_1).f1)))) = some r := by rw [if_neg (show ¬ (false = true) by decide)] at H; exact H
                          clear H
                          have H := H1
                          clear H1
                          by_cases c28 : ((rd_T23 t355 x21_1).f0) < 1
                          · rw [if_pos c28] at H
                            have c28b0 : decide (((rd_T23 t355 x21_1).f0) < 1) = true := decide_eq_true c28
                            clear c28
                            (first | rw [c28b0] | (simp only [i64_w, i32_w]; rw [c28b0]) | rw [c28b1] | skip)
                            by_cases c29 : t361 = 4
                            · rw [if_pos c29] at H
                              have c29b0 : (t361 == 4) = true := beq_iff_eq.mpr c29
                              have c29b1 : (t361 != 4) = false := bne_eq_false_iff_eq.mpr c29
                              clear c29
                              by_cases c30 : ((rd_T23 t355 x21_1).f0) ≥ 1
                              · rw [if_pos c30] at H
                                have c30b0 : decide (1 ≤ ((rd_T23 t355 x21_1).f0)) = true := decide_eq_true c30
                                clear c30
                                have H' := Aside0.mk H
                                clear H
                                have hcz31_0 : wc.cell? ⟨gb359, 0, none⟩ = some (.int .i64 ((rd_T23 t355 x21_1).f0)) := (blk_cell BK359.out 0).trans rfl
                                have hcz31_1 : wc.cell? ⟨gb359, 1, none⟩ = some (.string ((rd_T23 t355 x21_1).f1)) := (blk_cell BK359.out 1).trans rfl
                                have hfz31_0 := blk_frozen BK359.out 0
                                have hfz31_1 := blk_frozen BK359.out 1
                                go_wp2
                                repeat (go_quiet (fail); try go_wp2)
                                go_meet
                                case rel => exact ⟨_, ((t361 != 20)), (by first | rfl | (simp; done) | (simp [*]; done)), H', ⟨by have := HK1.out; have := HJ8.out; have := HJ22.out; first | omega | exact Nat.le_refl _⟩, ⟨by (with_reducible repeat (first | apply Kd.R_alloc | apply Kd.R_drewN | apply Kd.R_drew)); exact HO_5.out⟩, ⟨by (with_reducible repeat (first | apply Kd.R_alloc | apply Kd.R_drewN | apply Kd.R_drew)); exact HO_19.out⟩, ⟨by (with_reducible repeat (first | refine blk_drewN ?_ _ | refine blk_drew ?_ | refine blk_alloc ?_ _)); exact BK359.out⟩, ⟨by repeat (first | (with_reducible first | exact HB.out | apply below_alloc | apply pw_below_drewN | apply below_drew1 | refine below_set ?_ GE359.out) | exact HB.out)⟩⟩
                              · rw [if_neg c30] at H
                                have c30b0 : decide (1 ≤ ((rd_T23 t355 x21_1).f0)) = false := decide_eq_false c30
                                clear c30
                                have H' := Aside0.mk H
                                clear H
                                have hcz32_0 : wc.cell? ⟨gb359, 0, none⟩ = some (.int .i64 ((rd_T23 t355 x21_1).f0)) := (blk_cell BK359.out 0).trans rfl
                                have hcz32_1 : wc.cell? ⟨gb359, 1, none⟩ = some (.string ((rd_T23 t355 x21_1).f1)) := (blk_cell BK359.out 1).trans rfl
                                have hfz32_0 := blk_frozen BK359.out 0
                                have hfz32_1 := blk_frozen BK359.out 1
                                go_wp2
                                repeat (go_quiet (fail); try go_wp2)
                                go_meet
                                case rel => exact ⟨_, (false), (by first | rfl | (simp; done) | (simp [*]; done)), H', ⟨by have := HK1.out; have := HJ8.out; have := HJ22.out; first | omega | exact Nat.le_refl _⟩, ⟨by (with_reducible repeat (first | apply Kd.R_alloc | apply Kd.R_drewN | apply Kd.R_drew)); exact HO_5.out⟩, ⟨by (with_reducible repeat (first | apply Kd.R_alloc | apply Kd.R_drewN | apply Kd.R_drew)); exact HO_19.out⟩, ⟨by (with_reducible repeat (first | refine blk_drewN ?_ _ | refine blk_drew ?_ | refine blk_alloc ?_ _)); exact BK359.out⟩, ⟨by repeat (first | (with_reducible first | exact HB.out | apply below_alloc | apply pw_below_drewN | apply below_drew1 | refine below_set ?_ GE359.out) | exact HB.out)⟩⟩
                            · rw [if_neg c29] at H
                              have c29b0 : (t361 == 4) = false := beq_eq_false_iff_ne.mpr c29
                              have c29b1 : (t361 != 4) = true := bne_iff_ne.mpr c29
                              have H' := Aside0.mk H
                              clear H
                              have hcz33_0 : wc.cell? ⟨gb359, 0, none⟩ = some (.int .i64 ((rd_T23 t355 x21_1).f0)) := (blk_cell BK359.out 0).trans rfl
                              have hcz33_1 : wc.cell? ⟨gb359, 1, none⟩ = some (.string ((rd_T23 t355 x21_1).f1)) := (blk_cell BK359.out 1).trans rfl
                              have hfz33_0 := blk_frozen BK359.out 0
                              have hfz33_1 := blk_frozen BK359.out 1
                              go_wp2
                              repeat (go_quiet (fail); try go_wp2)
                              go_meet
                              case rel => exact ⟨_, ((t361 != 4)), (by first | rfl | (simp; done) | (simp [*]; done)), H', ⟨by have := HK1.out; have := HJ8.out; have := HJ22.out; first | omega | exact Nat.le_refl _⟩, ⟨by (with_reducible repeat (first | apply Kd.R_alloc | apply Kd.R_drewN | apply Kd.R_drew)); exact HO_5.out⟩, ⟨by (with_reducible repeat (first | apply Kd.R_alloc | apply Kd.R_drewN | apply Kd.R_drew)); exact HO_19.out⟩, ⟨by (with_reducible repeat (first | refine blk_drewN ?_ _ | refine blk_drew ?_ | refine blk_alloc ?_ _)); exact BK359.out⟩, ⟨by repeat (first | (with_reducible first | exact HB.out | apply below_alloc | apply pw_below_drewN | apply below_drew1 | refine below_set ?_ GE359.out) | exact HB.out)⟩⟩
                          · rw [if_neg c28] at H
                            have c28b0 : decide (((rd_T23 t355 x21_1).f0) < 1) = false := decide_eq_false c28
                            clear c28
                            (first | rw [c28b0] | (simp only [i64_w, i32_w]; rw [c28b0]) | rw [c28b1] | skip)
                            by_cases c34 : ((rd_T23 t355 x21_1).f0) ≥ 1
                            · rw [if_pos c34] at H
                              have c34b0 : decide (1 ≤ ((rd_T23 t355 x21_1).f0)) = true := decide_eq_true c34
                              clear c34
                              have H' := Aside0.mk H
                              clear H
                              have hcz35_0 : wc.cell? ⟨gb359, 0, none⟩ = some (.int .i64 ((rd_T23 t355 x21_1).f0)) := (blk_cell BK359.out 0).trans rfl
                              have hcz35_1 : wc.cell? ⟨gb359, 1, none⟩ = some (.string ((rd_T23 t355 x21_1).f1)) := (blk_cell BK359.out 1).trans rfl
                              have hfz35_0 := blk_frozen BK359.out 0
                              have hfz35_1 := blk_frozen BK359.out 1
                              go_wp2
                              repeat (go_quiet (fail); try go_wp2)
                              go_meet
                              case rel => exact ⟨_, ((t361 != 20)), (by first | rfl | (simp; done) | (simp [*]; done)), H', ⟨by have := HK1.out; have := HJ8.out; have := HJ22.out; first | omega | exact Nat.le_refl _⟩, ⟨by (with_reducible repeat (first | apply Kd.R_alloc | apply Kd.R_drewN | apply Kd.R_drew)); exact HO_5.out⟩, ⟨by (with_reducible repeat (first | apply Kd.R_alloc | apply Kd.R_drewN | apply Kd.R_drew)); exact HO_19.out⟩, ⟨by (with_reducible repeat (first | refine blk_drewN ?_ _ | refine blk_drew ?_ | refine blk_alloc ?_ _)); exact BK359.out⟩, ⟨by repeat (first | (with_reducible first | exact HB.out | apply below_alloc | apply pw_below_drewN | apply below_drew1 | refine below_set ?_ GE359.out) | exact HB.out)⟩⟩
                            · rw [if_neg c34] at H
                              have c34b0 : decide (1 ≤ ((rd_T23 t355 x21_1).f0)) = false := decide_eq_false c34
                              clear c34
                              have H' := Aside0.mk H
                              clear H
                              have hcz36_0 : wc.cell? ⟨gb359, 0, none⟩ = some (.int .i64 ((rd_T23 t355 x21_1).f0)) := (blk_cell BK359.out 0).trans rfl
                              have hcz36_1 : wc.cell? ⟨gb359, 1, none⟩ = some (.string ((rd_T23 t355 x21_1).f1)) := (blk_cell BK359.out 1).trans rfl
                              have hfz36_0 := blk_frozen BK359.out 0
                              have hfz36_1 := blk_frozen BK359.out 1
                              go_wp2
                              repeat (go_quiet (fail); try go_wp2)
                              go_meet
                              case rel => exact ⟨_, (false), (by first | rfl | (simp; done) | (simp [*]; done)), H', ⟨by have := HK1.out; have := HJ8.out; have := HJ22.out; first | omega | exact Nat.le_refl _⟩, ⟨by (with_reducible repeat (first | apply Kd.R_alloc | apply Kd.R_drewN | apply Kd.R_drew)); exact HO_5.out⟩, ⟨by (with_reducible repeat (first | apply Kd.R_alloc | apply Kd.R_drewN | apply Kd.R_drew)); exact HO_19.out⟩, ⟨by (with_reducible repeat (first | refine blk_drewN ?_ _ | refine blk_drew ?_ | refine blk_alloc ?_ _)); exact BK359.out⟩, ⟨by repeat (first | (with_reducible first | exact HB.out | apply below_alloc | apply pw_below_drewN | apply below_drew1 | refine below_set ?_ GE359.out) | exact HB.out)⟩⟩
                    case rest =>
                      clear HC25
                      try clear c1
                      try clear c2
                      try clear p2
                      try clear c3
                      try clear p3
                      try clear q3
                      try clear hx3
                      try clear c5
                      try clear c5b0
                      try clear c6
                      try clear c6b0
                      try clear p6
                      try clear c7
                      try clear c7b0
                      try clear c8
                      try clear c13
                      try clear c13b0
                      try clear c13b1
                      try clear c14
                      try clear c14b0
                      try clear c14b1
                      try clear c14b2
                      try clear c18
                      try clear c18b0
                      try clear c19
                      try clear c19b0
                      try clear c24
                      try clear c26
                      try clear c27
                      try clear c28
                      try clear c28b0
                      try clear c28b1
                      try clear c29
                      try clear c29b0
                      try clear c29b1
                      try clear c30
                      try clear c30b0
                      try clear c34
                      try clear c34b0
                      try clear p35
                      try clear q35
                      try clear hx35
                      try clear p36
                      try clear q36
                      try clear hx36
                      try clear hcz11_0
                      try clear hcz11_1
                      try clear hcz15_0
                      try clear hcz15_1
                      try clear hcz20_0
                      try clear hcz20_1
                      try clear hcz22_0
                      try clear hcz22_1
                      try clear hcz31_0
                      try clear hcz31_1
                      try clear hcz32_0
                      try clear hcz32_1
                      try clear hcz33_0
                      try clear hcz33_1
                      try clear hcz35_0
                      try clear hcz35_1
                      try clear hcz36_0
                      try clear hcz36_1
                      try clear hfz11_0
                      try clear hfz11_1
                      try clear hfz15_0
                      try clear hfz15_1
                      try clear hfz20_0
                      try clear hfz20_1
                      try clear hfz22_0
                      try clear hfz22_1
                      try clear hfz31_0
                      try clear hfz31_1
                      try clear hfz32_0
                      try clear hfz32_1
                      try clear hfz33_0
                      try clear hfz33_1
                      try clear hfz35_0
                      try clear hfz35_1
                      try clear hfz36_0
                      try clear hfz36_1
                      try clear hx358_0
                      try clear hx358_1
                      try clear hx362_0
                      try clear hx362_1
                      try clear p2
                      try clear p3
                      try clear p358
                      try clear p362
                      try clear p6
                      try clear q3
                      try clear q358
                      try clear q362
                      obtain ⟨kq, x51_24, rfl, HA, HJ24, HO_5, HO_19, BK359, HB⟩ := hcut
                      cases kq with
                      | zero => exact absurd HA.out (by simp [railplanlaw41_StoreHistory.j3])
                      | succ kj24 =>
                        have H := HA.out
                        clear HA
                        simp only [railplanlaw41_StoreHistory.j3] at H
                        by_cases c37 : x51_24 = true
                        · subst c37
                          have H1 : (some false) = some r := by rw [if_pos rfl] at H; exact H
                          clear H
                          have H := H1
                          clear H1
                          obtain rfl := Option.some.inj H
                          exact absurd hr_.out (by decide)
                        · replace c37 := Bool.eq_false_iff.mpr c37
                          subst c37
                          have H1 : (if x10_8 = true then (if x5_1.length < 5864062014805 then (railplanlaw41_StoreHistory.l0 kj24 t360 (x5_1 ++ [(⟨((rd_T23 t355 x21_1).f0), ((rd_T23 t355 x21_1).f1)⟩ : S23)]) t355 (t355.length : Int) (wrap64 (x21_1 + 1))) else (none)) else (railplanlaw41_StoreHistory.l0 kj24 x4_1 x5_1 t355 (t355.length : Int) (wrap64 (x21_1 + 1)))) = some r := by rw [if_neg (show ¬ (false = true) by decide)] at H; exact H
                          clear H
                          have H := H1
                          clear H1
                          by_cases c38 : x10_8 = true
                          · subst c38
                            have H1 : (if x5_1.length < 5864062014805 then (railplanlaw41_StoreHistory.l0 kj24 t360 (x5_1 ++ [(⟨((rd_T23 t355 x21_1).f0), ((rd_T23 t355 x21_1).f1)⟩ : S23)]) t355 (t355.length : Int) (wrap64 (x21_1 + 1))) else (none)) = some r := by rw [if_pos rfl] at H; exact H
                            clear H
                            have H := H1
                            clear H1
                            by_cases c39 : x5_1.length < 5864062014805
                            · rw [if_pos c39] at H
                              have LMc39 := Aside0.mk c39
                              clear c39
                              obtain ⟨y363, hy363⟩ : ∃ y_ : List (S23), y_ = (x5_1 ++ [(⟨((rd_T23 t355 x21_1).f0), ((rd_T23 t355 x21_1).f1)⟩ : S23)]) := ⟨_, rfl⟩
                              replace H : (railplanlaw41_StoreHistory.l0 kj24 t360 y363 t355 (t355.length : Int) (wrap64 (x21_1 + 1))) = some r := by first | (rw [hy363]; with_reducible exact H) | (have H2_ := (Option.bind_some _ _).symm.trans H; rw [hy363]; with_reducible exact H2_) | (have H2_ := (Option.bind_some _ _).symm.trans H; with_reducible exact H2_) | with_reducible exact H | (rw [hy363]; exact H) | exact H
                              have Ny363 := Aside0.mk hy363
                              clear hy363
                              have H' := Aside0.mk H
                              clear H
                              have hcz40_0 : wc.cell? ⟨gb359, 0, none⟩ = some (.int .i64 ((rd_T23 t355 x21_1).f0)) := (blk_cell BK359.out 0).trans rfl
                              have hcz40_1 : wc.cell? ⟨gb359, 1, none⟩ = some (.string ((rd_T23 t355 x21_1).f1)) := (blk_cell BK359.out 1).trans rfl
                              have hfz40_0 := blk_frozen BK359.out 0
                              have hfz40_1 := blk_frozen BK359.out 1
                              go_wp2_with (first | ((with_reducible refine gate_builtin (b := .append) (xs := #[.tmp 81, .tmp 83]) rfl ?_); at_builtin; refine Kd.R_append k23 (w0 := w) w.heap.size rfl (.tmp 81) (.tmp 83) 32 23 (.agg #[(.int .i64 0), (.string ⟨#[]⟩)]) 24 rfl Try.underlying32 info23 rfl (by decide) (by omega) u5 x5_1 (⟨((rd_T23 t355 x21_1).f0), ((rd_T23 t355 x21_1).f1)⟩ : S23) [.int .i64 ((rd_T23 t355 x21_1).f0), .string ((rd_T23 t355 x21_1).f1)] (fun k_ => some k_ ≠ (.slice (some ad358) t355.length co4 : Value).ownBlock ∧ k_ ≠ gb359) (fun _ => False) rfl rfl ?aP (fun _ hk => hk.elim) ?aF ?aO ?aB ?aS ?aL ?_; (case aP => exact k23_mkM _ _ _ (⟨((rd_T23 t355 x21_1).f0), ((rd_T23 t355 x21_1).f1)⟩ : S23)); (case aB => exact (by repeat (first | (with_reducible first | exact HB.out | apply below_alloc | apply pw_below_drewN | apply below_drew1 | refine below_set ?_ GE359.out) | exact HB.out))); (case aF => exact (fun k_ hk => ⟨Kd.fresh' (Kd.R_lt (by (with_reducible repeat (first | apply Kd.R_alloc | apply Kd.R_drewN | apply Kd.R_drew)); exact HO_19.out)) k_ hk, Kd.freshB (g := gb359) (o := .cells #[.int .i64 ((rd_T23 t355 x21_1).f0), .string ((rd_T23 t355 x21_1).f1)] 23 (0, 0)) (by (with_reducible repeat (first | refine blk_drewN ?_ _ | refine blk_drew ?_ | refine blk_alloc ?_ _)); exact BK359.out) k_ hk⟩)); (case aO => exact (by (with_reducible repeat (first | apply Kd.R_alloc | apply Kd.R_drewN | apply Kd.R_drew)); exact HO_5.out)); (case aS => exact (below_size (by repeat (first | (with_reducible first | exact HB.out | apply below_alloc | apply pw_below_drewN | apply below_drew1 | refine below_set ?_ GE359.out) | exact HB.out)))); (case aL => have := LMc39.out; omega); intro v364 w41 ho hb hg hat; rw [← Ny363.out] at ho; have n0_ := Aside0.mk (Kd.R_after (ok := (fun k_ => k_ ≠ gb359)) (by (with_reducible repeat (first | apply Kd.R_alloc | apply Kd.R_drewN | apply Kd.R_drew)); exact Kd.R_mono HO_19.out (fun _ hk => ⟨hk.2, hk.1⟩)) hg hat); have n1_ := Aside0.mk (blk_grown (g := gb359) (o := .cells #[.int .i64 ((rd_T23 t355 x21_1).f0), .string ((rd_T23 t355 x21_1).f1)] 23 (0, 0)) (by (with_reducible repeat (first | refine blk_drewN ?_ _ | refine blk_drew ?_ | refine blk_alloc ?_ _)); exact BK359.out) hg (Kd.R_away HO_5.out (fun _ hk => hk.2))); have n2_ := Aside0.mk (hb); have n3_ := Aside0.mk (ho); clear HO_19; clear BK359; clear HB; clear HO_5; have HO_19 := n0_; have BK359 := n1_; have HB := n2_; have HO365 := n3_; clear n0_ n1_ n2_ n3_; clear ho hb hg hat))
                              repeat (go_quiet (first | ((with_reducible refine gate_builtin (b := .append) (xs := #[.tmp 81, .tmp 83]) rfl ?_); at_builtin; refine Kd.R_append k23 (w0 := w) w.heap.size rfl (.tmp 81) (.tmp 83) 32 23 (.agg #[(.int .i64 0), (.string ⟨#[]⟩)]) 24 rfl Try.underlying32 info23 rfl (by decide) (by omega) u5 x5_1 (⟨((rd_T23 t355 x21_1).f0), ((rd_T23 t355 x21_1).f1)⟩ : S23) [.int .i64 ((rd_T23 t355 x21_1).f0), .string ((rd_T23 t355 x21_1).f1)] (fun k_ => some k_ ≠ (.slice (some ad358) t355.length co4 : Value).ownBlock ∧ k_ ≠ gb359) (fun _ => False) rfl rfl ?aP (fun _ hk => hk.elim) ?aF ?aO ?aB ?aS ?aL ?_; (case aP => exact k23_mkM _ _ _ (⟨((rd_T23 t355 x21_1).f0), ((rd_T23 t355 x21_1).f1)⟩ : S23)); (case aB => exact (by repeat (first | (with_reducible first | exact HB.out | apply below_alloc | apply pw_below_drewN | apply below_drew1 | refine below_set ?_ GE359.out) | exact HB.out))); (case aF => exact (fun k_ hk => ⟨Kd.fresh' (Kd.R_lt (by (with_reducible repeat (first | apply Kd.R_alloc | apply Kd.R_drewN | apply Kd.R_drew)); exact HO_19.out)) k_ hk, Kd.freshB (g := gb359) (o := .cells #[.int .i64 ((rd_T23 t355 x21_1).f0), .string ((rd_T23 t355 x21_1).f1)] 23 (0, 0)) (by (with_reducible repeat (first | refine blk_drewN ?_ _ | refine blk_drew ?_ | refine blk_alloc ?_ _)); exact BK359.out) k_ hk⟩)); (case aO => exact (by (with_reducible repeat (first | apply Kd.R_alloc | apply Kd.R_drewN | apply Kd.R_drew)); exact HO_5.out)); (case aS => exact (below_size (by repeat (first | (with_reducible first | exact HB.out | apply below_alloc | apply pw_below_drewN | apply below_drew1 | refine below_set ?_ GE359.out) | exact HB.out)))); (case aL => have := LMc39.out; omega); intro v364 w41 ho hb hg hat; rw [← Ny363.out] at ho; have n0_ := Aside0.mk (Kd.R_after (ok := (fun k_ => k_ ≠ gb359)) (by (with_reducible repeat (first | apply Kd.R_alloc | apply Kd.R_drewN | apply Kd.R_drew)); exact Kd.R_mono HO_19.out (fun _ hk => ⟨hk.2, hk.1⟩)) hg hat); have n1_ := Aside0.mk (blk_grown (g := gb359) (o := .cells #[.int .i64 ((rd_T23 t355 x21_1).f0), .string ((rd_T23 t355 x21_1).f1)] 23 (0, 0)) (by (with_reducible repeat (first | refine blk_drewN ?_ _ | refine blk_drew ?_ | refine blk_alloc ?_ _)); exact BK359.out) hg (Kd.R_away HO_5.out (fun _ hk => hk.2))); have n2_ := Aside0.mk (hb); have n3_ := Aside0.mk (ho); clear HO_19; clear BK359; clear HB; clear HO_5; have HO_19 := n0_; have BK359 := n1_; have HB := n2_; have HO365 := n3_; clear n0_ n1_ n2_ n3_; clear ho hb hg hat)); try go_wp2_with (first | ((with_reducible refine gate_builtin (b := .append) (xs := #[.tmp 81, .tmp 83]) rfl ?_); at_builtin; refine Kd.R_append k23 (w0 := w) w.heap.size rfl (.tmp 81) (.tmp 83) 32 23 (.agg #[(.int .i64 0), (.string ⟨#[]⟩)]) 24 rfl Try.underlying32 info23 rfl (by decide) (by omega) u5 x5_1 (⟨((rd_T23 t355 x21_1).f0), ((rd_T23 t355 x21_1).f1)⟩ : S23) [.int .i64 ((rd_T23 t355 x21_1).f0), .string ((rd_T23 t355 x21_1).f1)] (fun k_ => some k_ ≠ (.slice (some ad358) t355.length co4 : Value).ownBlock ∧ k_ ≠ gb359) (fun _ => False) rfl rfl ?aP (fun _ hk => hk.elim) ?aF ?aO ?aB ?aS ?aL ?_; (case aP => exact k23_mkM _ _ _ (⟨((rd_T23 t355 x21_1).f0), ((rd_T23 t355 x21_1).f1)⟩ : S23)); (case aB => exact (by repeat (first | (with_reducible first | exact HB.out | apply below_alloc | apply pw_below_drewN | apply below_drew1 | refine below_set ?_ GE359.out) | exact HB.out))); (case aF => exact (fun k_ hk => ⟨Kd.fresh' (Kd.R_lt (by (with_reducible repeat (first | apply Kd.R_alloc | apply Kd.R_drewN | apply Kd.R_drew)); exact HO_19.out)) k_ hk, Kd.freshB (g := gb359) (o := .cells #[.int .i64 ((rd_T23 t355 x21_1).f0), .string ((rd_T23 t355 x21_1).f1)] 23 (0, 0)) (by (with_reducible repeat (first | refine blk_drewN ?_ _ | refine blk_drew ?_ | refine blk_alloc ?_ _)); exact BK359.out) k_ hk⟩)); (case aO => exact (by (with_reducible repeat (first | apply Kd.R_alloc | apply Kd.R_drewN | apply Kd.R_drew)); exact HO_5.out)); (case aS => exact (below_size (by repeat (first | (with_reducible first | exact HB.out | apply below_alloc | apply pw_below_drewN | apply below_drew1 | refine below_set ?_ GE359.out) | exact HB.out)))); (case aL => have := LMc39.out; omega); intro v364 w41 ho hb hg hat; rw [← Ny363.out] at ho; have n0_ := Aside0.mk (Kd.R_after (ok := (fun k_ => k_ ≠ gb359)) (by (with_reducible repeat (first | apply Kd.R_alloc | apply Kd.R_drewN | apply Kd.R_drew)); exact Kd.R_mono HO_19.out (fun _ hk => ⟨hk.2, hk.1⟩)) hg hat); have n1_ := Aside0.mk (blk_grown (g := gb359) (o := .cells #[.int .i64 ((rd_T23 t355 x21_1).f0), .string ((rd_T23 t355 x21_1).f1)] 23 (0, 0)) (by (with_reducible repeat (first | refine blk_drewN ?_ _ | refine blk_drew ?_ | refine blk_alloc ?_ _)); exact BK359.out) hg (Kd.R_away HO_5.out (fun _ hk => hk.2))); have n2_ := Aside0.mk (hb); have n3_ := Aside0.mk (ho); clear HO_19; clear BK359; clear HB; clear HO_5; have HO_19 := n0_; have BK359 := n1_; have HB := n2_; have HO365 := n3_; clear n0_ n1_ n2_ n3_; clear ho hb hg hat)))
                              go_roundg kj24
                              case measure => have := HK1.out; have := HJ8.out; have := HJ22.out; have := HJ24.out; omega
                              case rel => exact ⟨(t360), (y363), (wrap64 (x21_1 + 1)), (by first | rfl | (simp; done) | (simp [*]; done)), (by first | rfl | (simp; done) | (simp [*]; done)), H', ⟨by have := HK1.out; have := HJ8.out; have := HJ22.out; have := HJ24.out; omega⟩, ⟨by (with_reducible repeat (first | apply Kd.R_alloc | apply Kd.R_drewN | apply Kd.R_drew)); exact Kd.R_mono HO365.out (fun _ hk => hk.1)⟩, ⟨by (with_reducible repeat (first | apply Kd.R_alloc | apply Kd.R_drewN | apply Kd.R_drew)); exact Kd.R_mono HO_19.out (fun _ hk => hk.2)⟩, ⟨by repeat (first | (with_reducible first | exact HB.out | apply below_alloc | apply pw_below_drewN | apply below_drew1 | refine below_set ?_ GE359.out) | exact HB.out)⟩⟩
                            · rw [if_neg c39] at H
                              exact absurd H (by simp)
                          · replace c38 := Bool.eq_false_iff.mpr c38
                            subst c38
                            have H1 : (railplanlaw41_StoreHistory.l0 kj24 x4_1 x5_1 t355 (t355.length : Int) (wrap64 (x21_1 + 1))) = some r := by rw [if_neg (show ¬ (false = true) by decide)] at H; exact H
                            clear H
                            have H := H1
                            clear H1
                            have H' := Aside0.mk H
                            clear H
                            go_wp2
                            repeat (go_quiet (fail); try go_wp2)
                            go_roundg kj24
                            case measure => have := HK1.out; have := HJ8.out; have := HJ22.out; have := HJ24.out; omega
                            case rel => exact ⟨(x4_1), (x5_1), (wrap64 (x21_1 + 1)), (by first | rfl | (simp; done) | (simp [*]; done)), (by first | rfl | (simp; done) | (simp [*]; done)), H', ⟨by have := HK1.out; have := HJ8.out; have := HJ22.out; have := HJ24.out; omega⟩, ⟨by (with_reducible repeat (first | apply Kd.R_alloc | apply Kd.R_drewN | apply Kd.R_drew)); exact Kd.R_mono HO_5.out (fun _ hk => hk.1)⟩, ⟨by (with_reducible repeat (first | apply Kd.R_alloc | apply Kd.R_drewN | apply Kd.R_drew)); exact Kd.R_mono HO_19.out (fun _ hk => hk.1)⟩, ⟨by repeat (first | (with_reducible first | exact HB.out | apply below_alloc | apply pw_below_drewN | apply below_drew1 | refine below_set ?_ GE359.out) | exact HB.out)⟩⟩
          · rw [if_neg c7] at H
            exact absurd H (by simp)
        · rw [if_neg c6] at H
          exact absurd H (by simp)
      · rw [if_neg c5] at H
        have c5b0 : decide (x21_1 < (t355.length : Int)) = false := decide_eq_false c5
        clear c5
        have H' := Aside0.mk H
        clear H
        obtain ⟨Ao42, co42, eo42⟩ := Kd.R_slice HO_5.out
        subst eo42
        go_wp2
        repeat (go_quiet (fail); try go_wp2)
        go_loopg [88] k1 (fun kq v88 w' => ∃ (x88_2 : Int), v88 = .int .i64 x88_2 ∧ Aside0 (railplanlaw41_StoreHistory.l1 kq x4_1 x5_1 x5_1 (x5_1.length : Int) x88_2 = some r) ∧ Aside0 (kq ≤ k1) ∧ Aside0 (Kd.R k23 23 w' w.heap.size (fun _ => True) (.slice Ao42 x5_1.length co42) x5_1) ∧ Aside0 (Kd.R k23 23 w' w.heap.size (fun _ => True) (.slice Ao42 x5_1.length co42) x5_1) ∧ Aside0 (Below w.heap.size w w'))
        case atStart => exact ⟨(0), (by first | rfl | (simp; done) | (simp [*]; done)), H', ⟨Nat.le_refl _⟩, ⟨by (with_reducible repeat (first | apply Kd.R_alloc | apply Kd.R_drewN | apply Kd.R_drew)); exact Kd.R_mono HO_5.out (fun _ hk => trivial)⟩, ⟨by (with_reducible repeat (first | apply Kd.R_alloc | apply Kd.R_drewN | apply Kd.R_drew)); exact Kd.R_mono HO_5.out (fun _ hk => trivial)⟩, ⟨by repeat (first | (with_reducible first | exact HB.out | apply below_alloc | apply pw_below_drewN | apply below_drew1) | exact HB.out)⟩⟩
        case round =>
          clear H'
          try clear c1
          try clear c2
          try clear p2
          try clear c3
          try clear p3
          try clear q3
          try clear hx3
          try clear c5
          try clear c5b0
          try clear c6
          try clear c6b0
          try clear p6
          try clear c7
          try clear c7b0
          try clear c8
          try clear c13
          try clear c13b0
          try clear c13b1
          try clear c14
          try clear c14b0
          try clear c14b1
          try clear c14b2
          try clear c18
          try clear c18b0
          try clear c19
          try clear c19b0
          try clear c24
          try clear c26
          try clear c27
          try clear c28
          try clear c28b0
          try clear c28b1
          try clear c29
          try clear c29b0
          try clear c29b1
          try clear c30
          try clear c30b0
          try clear c34
          try clear c34b0
          try clear p35
          try clear q35
          try clear hx35
          try clear p36
          try clear q36
          try clear hx36
          try clear c37
          try clear c38
          try clear c39
          try clear hcz11_0
          try clear hcz11_1
          try clear hcz15_0
          try clear hcz15_1
          try clear hcz20_0
          try clear hcz20_1
          try clear hcz22_0
          try clear hcz22_1
          try clear hcz31_0
          try clear hcz31_1
          try clear hcz32_0
          try clear hcz32_1
          try clear hcz33_0
          try clear hcz33_1
          try clear hcz35_0
          try clear hcz35_1
          try clear hcz36_0
          try clear hcz36_1
          try clear hcz40_0
          try clear hcz40_1
          try clear hfz11_0
          try clear hfz11_1
          try clear hfz15_0
          try clear hfz15_1
          try clear hfz20_0
          try clear hfz20_1
          try clear hfz22_0
          try clear hfz22_1
          try clear hfz31_0
          try clear hfz31_1
          try clear hfz32_0
          try clear hfz32_1
          try clear hfz33_0
          try clear hfz33_1
          try clear hfz35_0
          try clear hfz35_1
          try clear hfz36_0
          try clear hfz36_1
          try clear hfz40_0
          try clear hfz40_1
          try clear hx358_0
          try clear hx358_1
          try clear hx362_0
          try clear hx362_1
          try clear p2
          try clear p3
          try clear p35
          try clear p358
          try clear p36
          try clear p362
          try clear p6
          try clear q3
          try clear q35
          try clear q358
          try clear q36
          try clear q362
          obtain ⟨x88_2, rfl, HA, HK2, HO_5, HO_86, HB⟩ := hrel
          cases gk with
          | zero => exact absurd HA.out (by simp [railplanlaw41_StoreHistory.l1])
          | succ k2 =>
            have H := HA.out
            clear HA
            simp only [railplanlaw41_StoreHistory.l1] at H
            by_cases c43 : x88_2 < (x5_1.length : Int)
            · rw [if_pos c43] at H
              have c43b0 : decide (x88_2 < (x5_1.length : Int)) = true := decide_eq_true c43
              clear c43
              by_cases c44 : 0 ≤ x88_2
              · rw [if_pos c44] at H
                have c44b0 : decide (0 ≤ x88_2) = true := decide_eq_true c44
                clear c44
                by_cases c45 : x88_2 < (x5_1.length : Int)
                · rw [if_pos c45] at H
                  have c45b0 : decide (x88_2 < (x5_1.length : Int)) = true := decide_eq_true c45
                  clear c45
                  replace H := Option.bind_eq_some_iff.mp H
                  obtain ⟨⟨t368, t369, t370⟩, A460, H⟩ := H
                  replace H : (if t370 = 0 then (if (!(t368 == ((rd_T23 x5_1 x88_2).f0)) || (!(t369.toList == (((rd_T23 x5_1 x88_2).f1).toList)))) = true then (some false) else (railplanlaw41_StoreHistory.l1 k2 x4_1 x5_1 x5_1 (x5_1.length : Int) (wrap64 (x88_2 + 1)))) else (some false)) = some r := H
                  have A46 := Aside0.mk A460
                  clear A460
                  by_cases c47 : t370 = 0
                  · rw [if_pos c47] at H
                    have c47b0 : (t370 == 0) = true := beq_iff_eq.mpr c47
                    have c47b1 : (t370 != 0) = false := bne_eq_false_iff_eq.mpr c47
                    clear c47
                    by_cases c48 : (!(t368 == ((rd_T23 x5_1 x88_2).f0)) || (!(t369.toList == (((rd_T23 x5_1 x88_2).f1).toList)))) = true
                    · rw [if_pos c48] at H
                      have c48b0 : (!(t368 == ((rd_T23 x5_1 x88_2).f0)) || (!(t369.toList == (((rd_T23 x5_1 x88_2).f1).toList)))) = true := c48
                      clear c48
                      obtain rfl := Option.some.inj H
                      exact absurd hr_.out (by decide)
                    · rw [if_neg c48] at H
                      have c48b0 : (!(t368 == ((rd_T23 x5_1 x88_2).f0)) || (!(t369.toList == (((rd_T23 x5_1 x88_2).f1).toList)))) = false := by simpa using c48
                      clear c48
                      have H' := Aside0.mk H
                      clear H
                      have p366 : 0 ≤ (x88_2 : Int) := of_decide_eq_true (by first | (with_reducible assumption) | assumption)
                      have q366 : x88_2 < (x5_1.length : Int) := of_decide_eq_true (by first | (with_reducible assumption) | assumption)
                      obtain ⟨ad366, e366, hx366_0, hx366_1⟩ := at_T23 (Kd.R_reads' HO_86.out).2.2 x88_2 p366 q366
                      cases e366
                      replace p366 := eq_true p366
                      replace q366 := eq_true q366
                      go_wp2_with (first | ((with_reducible refine gate_dst (N := 12) rfl ?_); refine box_event ?hg (N := 12) ?hd (cs := #[.int .i64 0, .string (⟨#[]⟩ : ByteArray)]) (t := 23) ?hr ?_; (case hd => rfl); (case hg => rfl); (case hr => first | (go_simp; done) | (go_simp; rfl)); intro gb367 hg w49 hbox hb; have n0_ := Aside0.mk (Kd.R_below (Kd.R_elderB (by (with_reducible repeat (first | apply Kd.R_alloc | apply Kd.R_drewN | apply Kd.R_drew)); exact HO_5.out) gb367 (Nat.le_of_eq hg.symm)) hb); have n1_ := Aside0.mk (Kd.R_below (Kd.R_elderB (by (with_reducible repeat (first | apply Kd.R_alloc | apply Kd.R_drewN | apply Kd.R_drew)); exact HO_86.out) gb367 (Nat.le_of_eq hg.symm)) hb); have n2_ := Aside0.mk (below_step (by repeat (first | (with_reducible first | exact HB.out | apply below_alloc | apply pw_below_drewN | apply below_drew1) | exact HB.out)) hb); have n3_ := Aside0.mk (hbox); have n4_ := Aside0.mk ((by rw [hg]; exact (below_size (by repeat (first | (with_reducible first | exact HB.out | apply below_alloc | apply pw_below_drewN | apply below_drew1) | exact HB.out))) : w.heap.size ≤ gb367)); have n5_ := Aside0.mk ((by rw [hg]; exact (below_size (by repeat (first | (with_reducible first | exact HB.out | apply below_alloc | apply pw_below_drewN | apply below_drew1) | exact HB.out))) : w.heap.size ≤ gb367)); clear HO_5; clear HO_86; clear HB; have HO_5 := n0_; have HO_86 := n1_; have HB := n2_; have BK367 := n3_; have GW367 := n4_; have GE367 := n5_; clear n0_ n1_ n2_ n3_ n4_ n5_; clear hb hbox hg; have hcz50_0 : w49.cell? ⟨gb367, 0, none⟩ = some (.int .i64 0) := (blk_cell BK367.out 0).trans rfl; have hcz50_1 : w49.cell? ⟨gb367, 1, none⟩ = some (.string (⟨#[]⟩ : ByteArray)) := (blk_cell BK367.out 1).trans rfl; have hfz50_0 := blk_frozen BK367.out 0; have hfz50_1 := blk_frozen BK367.out 1) | (go_at_call 24; (with_reducible refine (store_Get.calls k2 x4_1 ((rd_T23 x5_1 x88_2).f0) t368 t369 t370 _ A46.out).mono ?_); rintro e w51 ⟨rfl, hb⟩; have n0_ := Aside0.mk (Kd.R_below (by (with_reducible repeat (first | apply Kd.R_alloc | apply Kd.R_drewN | apply Kd.R_drew)); exact (Kd.R_mono (Kd.R_far (p := ⟨gb367, 1, none⟩) (Kd.R_far (p := ⟨gb367, 0, none⟩) (Kd.R_mono HO_5.out (fun k_ hk => (⟨hk, hk.2⟩ : _ ∧ k_ ≠ gb367))) (fun _ hk => hk.2) (.int .i64 ((rd_T23 x5_1 x88_2).f0))) (fun _ hk => hk.2) (.string ((rd_T23 x5_1 x88_2).f1))) (fun _ h_ => h_.1))) hb); have n1_ := Aside0.mk (Kd.R_below (by (with_reducible repeat (first | apply Kd.R_alloc | apply Kd.R_drewN | apply Kd.R_drew)); exact (Kd.R_mono (Kd.R_far (p := ⟨gb367, 1, none⟩) (Kd.R_far (p := ⟨gb367, 0, none⟩) (Kd.R_mono HO_86.out (fun k_ hk => (⟨hk, hk.2⟩ : _ ∧ k_ ≠ gb367))) (fun _ hk => hk.2) (.int .i64 ((rd_T23 x5_1 x88_2).f0))) (fun _ hk => hk.2) (.string ((rd_T23 x5_1 x88_2).f1))) (fun _ h_ => h_.1))) hb); have n2_ := Aside0.mk (blk_below (g := gb367) (o := .cells #[.int .i64 ((rd_T23 x5_1 x88_2).f0), .string ((rd_T23 x5_1 x88_2).f1)] 23 (0, 0)) (by (with_reducible repeat (first | refine blk_drewN ?_ _ | refine blk_drew ?_ | refine blk_alloc ?_ _)); refine blk_put (cs := #[.int .i64 ((rd_T23 x5_1 x88_2).f0), .string (⟨#[]⟩ : ByteArray)]) ?_ 1 _ rfl; (with_reducible repeat (first | refine blk_drewN ?_ _ | refine blk_drew ?_ | refine blk_alloc ?_ _)); refine blk_put (cs := #[.int .i64 0, .string (⟨#[]⟩ : ByteArray)]) ?_ 0 _ rfl; (with_reducible repeat (first | refine blk_drewN ?_ _ | refine blk_drew ?_ | refine blk_alloc ?_ _)); exact BK367.out) hb); have n3_ := Aside0.mk (below_step (by repeat (first | (with_reducible first | exact HB.out | apply below_alloc | apply pw_below_drewN | apply below_drew1 | refine below_set ?_ GE367.out) | exact HB.out)) hb); clear HO_5; clear HO_86; clear BK367; clear HB; have HO_5 := n0_; have HO_86 := n1_; have BK367 := n2_; have HB := n3_; clear n0_ n1_ n2_ n3_; (try clear hb); (try clear hb2); (try clear hk); (try clear hi)) | ((with_reducible refine gate_dst (N := 13) rfl ?_); refine box_event ?hg (N := 13) ?hd (cs := #[.int .i64 0, .string (⟨#[]⟩ : ByteArray)]) (t := 23) ?hr ?_; (case hd => rfl); (case hg => rfl); (case hr => first | (go_simp; done) | (go_simp; rfl)); intro gb371 hg w52 hbox hb; have n0_ := Aside0.mk (Kd.R_below (Kd.R_elderB (by (with_reducible repeat (first | apply Kd.R_alloc | apply Kd.R_drewN | apply Kd.R_drew)); exact HO_5.out) gb371 (Nat.le_of_eq hg.symm)) hb); have n1_ := Aside0.mk (Kd.R_below (Kd.R_elderB (by (with_reducible repeat (first | apply Kd.R_alloc | apply Kd.R_drewN | apply Kd.R_drew)); exact HO_86.out) gb371 (Nat.le_of_eq hg.symm)) hb); have n2_ := Aside0.mk (blk_below (g := gb367) (o := .cells #[.int .i64 ((rd_T23 x5_1 x88_2).f0), .string ((rd_T23 x5_1 x88_2).f1)] 23 (0, 0)) (by (with_reducible repeat (first | refine blk_drewN ?_ _ | refine blk_drew ?_ | refine blk_alloc ?_ _)); exact BK367.out) hb); have n3_ := Aside0.mk (below_step (by repeat (first | (with_reducible first | exact HB.out | apply below_alloc | apply pw_below_drewN | apply below_drew1 | refine below_set ?_ GE367.out) | exact HB.out)) hb); have n4_ := Aside0.mk (hbox); have n5_ := Aside0.mk ((by rw [hg]; exact (below_size (by repeat (first | (with_reducible first | exact HB.out | apply below_alloc | apply pw_below_drewN | apply below_drew1 | refine below_set ?_ GE367.out) | exact HB.out))) : w.heap.size ≤ gb371)); have n6_ := Aside0.mk ((by rw [hg]; exact (below_size (by repeat (first | (with_reducible first | exact HB.out | apply below_alloc | apply pw_below_drewN | apply below_drew1 | refine below_set ?_ GE367.out) | exact HB.out))) : w.heap.size ≤ gb371)); have n7_ := Aside0.mk ((by rw [hg]; exact Nat.ne_of_lt (blk_lt (g := gb367) (o := .cells #[.int .i64 ((rd_T23 x5_1 x88_2).f0), .string ((rd_T23 x5_1 x88_2).f1)] 23 (0, 0)) (by (with_reducible repeat (first | refine blk_drewN ?_ _ | refine blk_drew ?_ | refine blk_alloc ?_ _)); exact BK367.out)) : gb367 ≠ gb371)); have n8_ := Aside0.mk ((by rw [hg]; exact Nat.ne_of_gt (blk_lt (g := gb367) (o := .cells #[.int .i64 ((rd_T23 x5_1 x88_2).f0), .string ((rd_T23 x5_1 x88_2).f1)] 23 (0, 0)) (by (with_reducible repeat (first | refine blk_drewN ?_ _ | refine blk_drew ?_ | refine blk_alloc ?_ _)); exact BK367.out)) : gb371 ≠ gb367)); clear HO_5; clear HO_86; clear BK367; clear HB; have HO_5 := n0_; have HO_86 := n1_; have BK367 := n2_; have HB := n3_; have BK371 := n4_; have GW371 := n5_; have GE371 := n6_; have NB367_371 := n7_; have NB371_367 := n8_; clear n0_ n1_ n2_ n3_ n4_ n5_ n6_ n7_ n8_; clear hb hbox hg; have hnb53 := NB371_367.out; have hnc53 := NB367_371.out; have hcz54_0 : w52.cell? ⟨gb371, 0, none⟩ = some (.int .i64 0) := (blk_cell BK371.out 0).trans rfl; have hcz54_1 : w52.cell? ⟨gb371, 1, none⟩ = some (.string (⟨#[]⟩ : ByteArray)) := (blk_cell BK371.out 1).trans rfl; have hfz54_0 := blk_frozen BK371.out 0; have hfz54_1 := blk_frozen BK371.out 1; have hcz55_0 : w52.cell? ⟨gb367, 0, none⟩ = some (.int .i64 ((rd_T23 x5_1 x88_2).f0)) := (blk_cell BK367.out 0).trans rfl; have hcz55_1 : w52.cell? ⟨gb367, 1, none⟩ = some (.string ((rd_T23 x5_1 x88_2).f1)) := (blk_cell BK367.out 1).trans rfl; have hfz55_0 := blk_frozen BK367.out 0; have hfz55_1 := blk_frozen BK367.out 1))
                      repeat (go_quiet (first | ((with_reducible refine gate_dst (N := 12) rfl ?_); refine box_event ?hg (N := 12) ?hd (cs := #[.int .i64 0, .string (⟨#[]⟩ : ByteArray)]) (t := 23) ?hr ?_; (case hd => rfl); (case hg => rfl); (case hr => first | (go_simp; done) | (go_simp; rfl)); intro gb367 hg w49 hbox hb; have n0_ := Aside0.mk (Kd.R_below (Kd.R_elderB (by (with_reducible repeat (first | apply Kd.R_alloc | apply Kd.R_drewN | apply Kd.R_drew)); exact HO_5.out) gb367 (Nat.le_of_eq hg.symm)) hb); have n1_ := Aside0.mk (Kd.R_below (Kd.R_elderB (by (with_reducible repeat (first | apply Kd.R_alloc | apply Kd.R_drewN | apply Kd.R_drew)); exact HO_86.out) gb367 (Nat.le_of_eq hg.symm)) hb); have n2_ := Aside0.mk (below_step (by repeat (first | (with_reducible first | exact HB.out | apply below_alloc | apply pw_below_drewN | apply below_drew1) | exact HB.out)) hb); have n3_ := Aside0.mk (hbox); have n4_ := Aside0.mk ((by rw [hg]; exact (below_size (by repeat (first | (with_reducible first | exact HB.out | apply below_alloc | apply pw_below_drewN | apply below_drew1) | exact HB.out))) : w.heap.size ≤ gb367)); have n5_ := Aside0.mk ((by rw [hg]; exact (below_size (by repeat (first | (with_reducible first | exact HB.out | apply below_alloc | apply pw_below_drewN | apply below_drew1) | exact HB.out))) : w.heap.size ≤ gb367)); clear HO_5; clear HO_86; clear HB; have HO_5 := n0_; have HO_86 := n1_; have HB := n2_; have BK367 := n3_; have GW367 := n4_; have GE367 := n5_; clear n0_ n1_ n2_ n3_ n4_ n5_; clear hb hbox hg; have hcz50_0 : w49.cell? ⟨gb367, 0, none⟩ = some (.int .i64 0) := (blk_cell BK367.out 0).trans rfl; have hcz50_1 : w49.cell? ⟨gb367, 1, none⟩ = some (.string (⟨#[]⟩ : ByteArray)) := (blk_cell BK367.out 1).trans rfl; have hfz50_0 := blk_frozen BK367.out 0; have hfz50_1 := blk_frozen BK367.out 1) | (go_at_call 24; (with_reducible refine (store_Get.calls k2 x4_1 ((rd_T23 x5_1 x88_2).f0) t368 t369 t370 _ A46.out).mono ?_); rintro e w51 ⟨rfl, hb⟩; have n0_ := Aside0.mk (Kd.R_below (by (with_reducible repeat (first | apply Kd.R_alloc | apply Kd.R_drewN | apply Kd.R_drew)); exact (Kd.R_mono (Kd.R_far (p := ⟨gb367, 1, none⟩) (Kd.R_far (p := ⟨gb367, 0, none⟩) (Kd.R_mono HO_5.out (fun k_ hk => (⟨hk, hk.2⟩ : _ ∧ k_ ≠ gb367))) (fun _ hk => hk.2) (.int .i64 ((rd_T23 x5_1 x88_2).f0))) (fun _ hk => hk.2) (.string ((rd_T23 x5_1 x88_2).f1))) (fun _ h_ => h_.1))) hb); have n1_ := Aside0.mk (Kd.R_below (by (with_reducible repeat (first | apply Kd.R_alloc | apply Kd.R_drewN | apply Kd.R_drew)); exact (Kd.R_mono (Kd.R_far (p := ⟨gb367, 1, none⟩) (Kd.R_far (p := ⟨gb367, 0, none⟩) (Kd.R_mono HO_86.out (fun k_ hk => (⟨hk, hk.2⟩ : _ ∧ k_ ≠ gb367))) (fun _ hk => hk.2) (.int .i64 ((rd_T23 x5_1 x88_2).f0))) (fun _ hk => hk.2) (.string ((rd_T23 x5_1 x88_2).f1))) (fun _ h_ => h_.1))) hb); have n2_ := Aside0.mk (blk_below (g := gb367) (o := .cells #[.int .i64 ((rd_T23 x5_1 x88_2).f0), .string ((rd_T23 x5_1 x88_2).f1)] 23 (0, 0)) (by (with_reducible repeat (first | refine blk_drewN ?_ _ | refine blk_drew ?_ | refine blk_alloc ?_ _)); refine blk_put (cs := #[.int .i64 ((rd_T23 x5_1 x88_2).f0), .string (⟨#[]⟩ : ByteArray)]) ?_ 1 _ rfl; (with_reducible repeat (first | refine blk_drewN ?_ _ | refine blk_drew ?_ | refine blk_alloc ?_ _)); refine blk_put (cs := #[.int .i64 0, .string (⟨#[]⟩ : ByteArray)]) ?_ 0 _ rfl; (with_reducible repeat (first | refine blk_drewN ?_ _ | refine blk_drew ?_ | refine blk_alloc ?_ _)); exact BK367.out) hb); have n3_ := Aside0.mk (below_step (by repeat (first | (with_reducible first | exact HB.out | apply below_alloc | apply pw_below_drewN | apply below_drew1 | refine below_set ?_ GE367.out) | exact HB.out)) hb); clear HO_5; clear HO_86; clear BK367; clear HB; have HO_5 := n0_; have HO_86 := n1_; have BK367 := n2_; have HB := n3_; clear n0_ n1_ n2_ n3_; (try clear hb); (try clear hb2); (try clear hk); (try clear hi)) | ((with_reducible refine gate_dst (N := 13) rfl ?_); refine box_event ?hg (N := 13) ?hd (cs := #[.int .i64 0, .string (⟨#[]⟩ : ByteArray)]) (t := 23) ?hr ?_; (case hd => rfl); (case hg => rfl); (case hr => first | (go_simp; done) | (go_simp; rfl)); intro gb371 hg w52 hbox hb; have n0_ := Aside0.mk (Kd.R_below (Kd.R_elderB (by (with_reducible repeat (first | apply Kd.R_alloc | apply Kd.R_drewN | apply Kd.R_drew)); exact HO_5.out) gb371 (Nat.le_of_eq hg.symm)) hb); have n1_ := Aside0.mk (Kd.R_below (Kd.R_elderB (by (with_reducible repeat (first | apply Kd.R_alloc | apply Kd.R_drewN | apply Kd.R_drew)); exact HO_86.out) gb371 (Nat.le_of_eq hg.symm)) hb); have n2_ := Aside0.mk (blk_below (g := gb367) (o := .cells #[.int .i64 ((rd_T23 x5_1 x88_2).f0), .string ((rd_T23 x5_1 x88_2).f1)] 23 (0, 0)) (by (with_reducible repeat (first | refine blk_drewN ?_ _ | refine blk_drew ?_ | refine blk_alloc ?_ _)); exact BK367.out) hb); have n3_ := Aside0.mk (below_step (by repeat (first | (with_reducible first | exact HB.out | apply below_alloc | apply pw_below_drewN | apply below_drew1 | refine below_set ?_ GE367.out) | exact HB.out)) hb); have n4_ := Aside0.mk (hbox); have n5_ := Aside0.mk ((by rw [hg]; exact (below_size (by repeat (first | (with_reducible first | exact HB.out | apply below_alloc | apply pw_below_drewN | apply below_drew1 | refine below_set ?_ GE367.out) | exact HB.out))) : w.heap.size ≤ gb371)); have n6_ := Aside0.mk ((by rw [hg]; exact (below_size (by repeat (first | (with_reducible first | exact HB.out | apply below_alloc | apply pw_below_drewN | apply below_drew1 | refine below_set ?_ GE367.out) | exact HB.out))) : w.heap.size ≤ gb371)); have n7_ := Aside0.mk ((by rw [hg]; exact Nat.ne_of_lt (blk_lt (g := gb367) (o := .cells #[.int .i64 ((rd_T23 x5_1 x88_2).f0), .string ((rd_T23 x5_1 x88_2).f1)] 23 (0, 0)) (by (with_reducible repeat (first | refine blk_drewN ?_ _ | refine blk_drew ?_ | refine blk_alloc ?_ _)); exact BK367.out)) : gb367 ≠ gb371)); have n8_ := Aside0.mk ((by rw [hg]; exact Nat.ne_of_gt (blk_lt (g := gb367) (o := .cells #[.int .i64 ((rd_T23 x5_1 x88_2).f0), .string ((rd_T23 x5_1 x88_2).f1)] 23 (0, 0)) (by (with_reducible repeat (first | refine blk_drewN ?_ _ | refine blk_drew ?_ | refine blk_alloc ?_ _)); exact BK367.out)) : gb371 ≠ gb367)); clear HO_5; clear HO_86; clear BK367; clear HB; have HO_5 := n0_; have HO_86 := n1_; have BK367 := n2_; have HB := n3_; have BK371 := n4_; have GW371 := n5_; have GE371 := n6_; have NB367_371 := n7_; have NB371_367 := n8_; clear n0_ n1_ n2_ n3_ n4_ n5_ n6_ n7_ n8_; clear hb hbox hg; have hnb53 := NB371_367.out; have hnc53 := NB367_371.out; have hcz54_0 : w52.cell? ⟨gb371, 0, none⟩ = some (.int .i64 0) := (blk_cell BK371.out 0).trans rfl; have hcz54_1 : w52.cell? ⟨gb371, 1, none⟩ = some (.string (⟨#[]⟩ : ByteArray)) := (blk_cell BK371.out 1).trans rfl; have hfz54_0 := blk_frozen BK371.out 0; have hfz54_1 := blk_frozen BK371.out 1; have hcz55_0 : w52.cell? ⟨gb367, 0, none⟩ = some (.int .i64 ((rd_T23 x5_1 x88_2).f0)) := (blk_cell BK367.out 0).trans rfl; have hcz55_1 : w52.cell? ⟨gb367, 1, none⟩ = some (.string ((rd_T23 x5_1 x88_2).f1)) := (blk_cell BK367.out 1).trans rfl; have hfz55_0 := blk_frozen BK367.out 0; have hfz55_1 := blk_frozen BK367.out 1)); try go_wp2_with (first | ((with_reducible refine gate_dst (N := 12) rfl ?_); refine box_event ?hg (N := 12) ?hd (cs := #[.int .i64 0, .string (⟨#[]⟩ : ByteArray)]) (t := 23) ?hr ?_; (case hd => rfl); (case hg => rfl); (case hr => first | (go_simp; done) | (go_simp; rfl)); intro gb367 hg w49 hbox hb; have n0_ := Aside0.mk (Kd.R_below (Kd.R_elderB (by (with_reducible repeat (first | apply Kd.R_alloc | apply Kd.R_drewN | apply Kd.R_drew)); exact HO_5.out) gb367 (Nat.le_of_eq hg.symm)) hb); have n1_ := Aside0.mk (Kd.R_below (Kd.R_elderB (by (with_reducible repeat (first | apply Kd.R_alloc | apply Kd.R_drewN | apply Kd.R_drew)); exact HO_86.out) gb367 (Nat.le_of_eq hg.symm)) hb); have n2_ := Aside0.mk (below_step (by repeat (first | (with_reducible first | exact HB.out | apply below_alloc | apply pw_below_drewN | apply below_drew1) | exact HB.out)) hb); have n3_ := Aside0.mk (hbox); have n4_ := Aside0.mk ((by rw [hg]; exact (below_size (by repeat (first | (with_reducible first | exact HB.out | apply below_alloc | apply pw_below_drewN | apply below_drew1) | exact HB.out))) : w.heap.size ≤ gb367)); have n5_ := Aside0.mk ((by rw [hg]; exact (below_size (by repeat (first | (with_reducible first | exact HB.out | apply below_alloc | apply pw_below_drewN | apply below_drew1) | exact HB.out))) : w.heap.size ≤ gb367)); clear HO_5; clear HO_86; clear HB; have HO_5 := n0_; have HO_86 := n1_; have HB := n2_; have BK367 := n3_; have GW367 := n4_; have GE367 := n5_; clear n0_ n1_ n2_ n3_ n4_ n5_; clear hb hbox hg; have hcz50_0 : w49.cell? ⟨gb367, 0, none⟩ = some (.int .i64 0) := (blk_cell BK367.out 0).trans rfl; have hcz50_1 : w49.cell? ⟨gb367, 1, none⟩ = some (.string (⟨#[]⟩ : ByteArray)) := (blk_cell BK367.out 1).trans rfl; have hfz50_0 := blk_frozen BK367.out 0; have hfz50_1 := blk_frozen BK367.out 1) | (go_at_call 24; (with_reducible refine (store_Get.calls k2 x4_1 ((rd_T23 x5_1 x88_2).f0) t368 t369 t370 _ A46.out).mono ?_); rintro e w51 ⟨rfl, hb⟩; have n0_ := Aside0.mk (Kd.R_below (by (with_reducible repeat (first | apply Kd.R_alloc | apply Kd.R_drewN | apply Kd.R_drew)); exact (Kd.R_mono (Kd.R_far (p := ⟨gb367, 1, none⟩) (Kd.R_far (p := ⟨gb367, 0, none⟩) (Kd.R_mono HO_5.out (fun k_ hk => (⟨hk, hk.2⟩ : _ ∧ k_ ≠ gb367))) (fun _ hk => hk.2) (.int .i64 ((rd_T23 x5_1 x88_2).f0))) (fun _ hk => hk.2) (.string ((rd_T23 x5_1 x88_2).f1))) (fun _ h_ => h_.1))) hb); have n1_ := Aside0.mk (Kd.R_below (by (with_reducible repeat (first | apply Kd.R_alloc | apply Kd.R_drewN | apply Kd.R_drew)); exact (Kd.R_mono (Kd.R_far (p := ⟨gb367, 1, none⟩) (Kd.R_far (p := ⟨gb367, 0, none⟩) (Kd.R_mono HO_86.out (fun k_ hk => (⟨hk, hk.2⟩ : _ ∧ k_ ≠ gb367))) (fun _ hk => hk.2) (.int .i64 ((rd_T23 x5_1 x88_2).f0))) (fun _ hk => hk.2) (.string ((rd_T23 x5_1 x88_2).f1))) (fun _ h_ => h_.1))) hb); have n2_ := Aside0.mk (blk_below (g := gb367) (o := .cells #[.int .i64 ((rd_T23 x5_1 x88_2).f0), .string ((rd_T23 x5_1 x88_2).f1)] 23 (0, 0)) (by (with_reducible repeat (first | refine blk_drewN ?_ _ | refine blk_drew ?_ | refine blk_alloc ?_ _)); refine blk_put (cs := #[.int .i64 ((rd_T23 x5_1 x88_2).f0), .string (⟨#[]⟩ : ByteArray)]) ?_ 1 _ rfl; (with_reducible repeat (first | refine blk_drewN ?_ _ | refine blk_drew ?_ | refine blk_alloc ?_ _)); refine blk_put (cs := #[.int .i64 0, .string (⟨#[]⟩ : ByteArray)]) ?_ 0 _ rfl; (with_reducible repeat (first | refine blk_drewN ?_ _ | refine blk_drew ?_ | refine blk_alloc ?_ _)); exact BK367.out) hb); have n3_ := Aside0.mk (below_step (by repeat (first | (with_reducible first | exact HB.out | apply below_alloc | apply pw_below_drewN | apply below_drew1 | refine below_set ?_ GE367.out) | exact HB.out)) hb); clear HO_5; clear HO_86; clear BK367; clear HB; have HO_5 := n0_; have HO_86 := n1_; have BK367 := n2_; have HB := n3_; clear n0_ n1_ n2_ n3_; (try clear hb); (try clear hb2); (try clear hk); (try clear hi)) | ((with_reducible refine gate_dst (N := 13) rfl ?_); refine box_event ?hg (N := 13) ?hd (cs := #[.int .i64 0, .string (⟨#[]⟩ : ByteArray)]) (t := 23) ?hr ?_; (case hd => rfl); (case hg => rfl); (case hr => first | (go_simp; done) | (go_simp; rfl)); intro gb371 hg w52 hbox hb; have n0_ := Aside0.mk (Kd.R_below (Kd.R_elderB (by (with_reducible repeat (first | apply Kd.R_alloc | apply Kd.R_drewN | apply Kd.R_drew)); exact HO_5.out) gb371 (Nat.le_of_eq hg.symm)) hb); have n1_ := Aside0.mk (Kd.R_below (Kd.R_elderB (by (with_reducible repeat (first | apply Kd.R_alloc | apply Kd.R_drewN | apply Kd.R_drew)); exact HO_86.out) gb371 (Nat.le_of_eq hg.symm)) hb); have n2_ := Aside0.mk (blk_below (g := gb367) (o := .cells #[.int .i64 ((rd_T23 x5_1 x88_2).f0), .string ((rd_T23 x5_1 x88_2).f1)] 23 (0, 0)) (by (with_reducible repeat (first | refine blk_drewN ?_ _ | refine blk_drew ?_ | refine blk_alloc ?_ _)); exact BK367.out) hb); have n3_ := Aside0.mk (below_step (by repeat (first | (with_reducible first | exact HB.out | apply below_alloc | apply pw_below_drewN | apply below_drew1 | refine below_set ?_ GE367.out) | exact HB.out)) hb); have n4_ := Aside0.mk (hbox); have n5_ := Aside0.mk ((by rw [hg]; exact (below_size (by repeat (first | (with_reducible first | exact HB.out | apply below_alloc | apply pw_below_drewN | apply below_drew1 | refine below_set ?_ GE367.out) | exact HB.out))) : w.heap.size ≤ gb371)); have n6_ := Aside0.mk ((by rw [hg]; exact (below_size (by repeat (first | (with_reducible first | exact HB.out | apply below_alloc | apply pw_below_drewN | apply below_drew1 | refine below_set ?_ GE367.out) | exact HB.out))) : w.heap.size ≤ gb371)); have n7_ := Aside0.mk ((by rw [hg]; exact Nat.ne_of_lt (blk_lt (g := gb367) (o := .cells #[.int .i64 ((rd_T23 x5_1 x88_2).f0), .string ((rd_T23 x5_1 x88_2).f1)] 23 (0, 0)) (by (with_reducible repeat (first | refine blk_drewN ?_ _ | refine blk_drew ?_ | refine blk_alloc ?_ _)); exact BK367.out)) : gb367 ≠ gb371)); have n8_ := Aside0.mk ((by rw [hg]; exact Nat.ne_of_gt (blk_lt (g := gb367) (o := .cells #[.int .i64 ((rd_T23 x5_1 x88_2).f0), .string ((rd_T23 x5_1 x88_2).f1)] 23 (0, 0)) (by (with_reducible repeat (first | refine blk_drewN ?_ _ | refine blk_drew ?_ | refine blk_alloc ?_ _)); exact BK367.out)) : gb371 ≠ gb367)); clear HO_5; clear HO_86; clear BK367; clear HB; have HO_5 := n0_; have HO_86 := n1_; have BK367 := n2_; have HB := n3_; have BK371 := n4_; have GW371 := n5_; have GE371 := n6_; have NB367_371 := n7_; have NB371_367 := n8_; clear n0_ n1_ n2_ n3_ n4_ n5_ n6_ n7_ n8_; clear hb hbox hg; have hnb53 := NB371_367.out; have hnc53 := NB367_371.out; have hcz54_0 : w52.cell? ⟨gb371, 0, none⟩ = some (.int .i64 0) := (blk_cell BK371.out 0).trans rfl; have hcz54_1 : w52.cell? ⟨gb371, 1, none⟩ = some (.string (⟨#[]⟩ : ByteArray)) := (blk_cell BK371.out 1).trans rfl; have hfz54_0 := blk_frozen BK371.out 0; have hfz54_1 := blk_frozen BK371.out 1; have hcz55_0 : w52.cell? ⟨gb367, 0, none⟩ = some (.int .i64 ((rd_T23 x5_1 x88_2).f0)) := (blk_cell BK367.out 0).trans rfl; have hcz55_1 : w52.cell? ⟨gb367, 1, none⟩ = some (.string ((rd_T23 x5_1 x88_2).f1)) := (blk_cell BK367.out 1).trans rfl; have hfz55_0 := blk_frozen BK367.out 0; have hfz55_1 := blk_frozen BK367.out 1)))
                      go_roundg k2
                      case measure => have := HK1.out; have := HK2.out; omega
                      case rel => exact ⟨(wrap64 (x88_2 + 1)), (by first | rfl | (simp; done) | (simp [*]; done)), H', ⟨by have := HK1.out; have := HK2.out; omega⟩, ⟨by (with_reducible repeat (first | apply Kd.R_alloc | apply Kd.R_drewN | apply Kd.R_drew)); exact Kd.R_mono (Kd.R_far (p := ⟨gb371, 1, none⟩) (Kd.R_far (p := ⟨gb371, 0, none⟩) (Kd.R_mono HO_5.out (fun k_ hk => (⟨hk, hk.2⟩ : _ ∧ k_ ≠ gb371))) (fun _ hk => hk.2) (.int .i64 t368)) (fun _ hk => hk.2) (.string t369)) (fun _ hk => trivial)⟩, ⟨by (with_reducible repeat (first | apply Kd.R_alloc | apply Kd.R_drewN | apply Kd.R_drew)); exact Kd.R_mono (Kd.R_far (p := ⟨gb371, 1, none⟩) (Kd.R_far (p := ⟨gb371, 0, none⟩) (Kd.R_mono HO_86.out (fun k_ hk => (⟨hk, hk.2⟩ : _ ∧ k_ ≠ gb371))) (fun _ hk => hk.2) (.int .i64 t368)) (fun _ hk => hk.2) (.string t369)) (fun _ hk => trivial)⟩, ⟨by repeat (first | (with_reducible first | exact HB.out | apply below_alloc | apply pw_below_drewN | apply below_drew1 | refine below_set ?_ GE367.out | refine below_set ?_ GE371.out) | exact HB.out)⟩⟩
                  · rw [if_neg c47] at H
                    have c47b0 : (t370 == 0) = false := beq_eq_false_iff_ne.mpr c47
                    have c47b1 : (t370 != 0) = true := bne_iff_ne.mpr c47
                    obtain rfl := Option.some.inj H
                    exact absurd hr_.out (by decide)
                · rw [if_neg c45] at H
                  exact absurd H (by simp)
              · rw [if_neg c44] at H
                exact absurd H (by simp)
            · rw [if_neg c43] at H
              have c43b0 : decide (x88_2 < (x5_1.length : Int)) = false := decide_eq_false c43
              clear c43
              replace H := Option.bind_eq_some_iff.mp H
              obtain ⟨⟨t372, t373⟩, A560, H⟩ := H
              replace H : ((railplanlaw41_awake.f k2).bind fun t376 => (if t376 = true then ((api_Version.f k2 t372 x5_1).bind fun t377 => (if t377 = true then (some (t373 == (x4_1.size : Int))) else (some false))) else (some false))) = some r := H
              have A56 := Aside0.mk A560
              clear A560
              replace H := Option.bind_eq_some_iff.mp H
              obtain ⟨t376, A570, H⟩ := H
              replace H : (if t376 = true then ((api_Version.f k2 t372 x5_1).bind fun t377 => (if t377 = true then (some (t373 == (x4_1.size : Int))) else (some false))) else (some false)) = some r := H
              have A57 := Aside0.mk A570
              clear A570
              by_cases c58 : t376 = true
              · subst c58
                have H1 : ((api_Version.f k2 t372 x5_1).bind fun t377 => (if t377 = true then (some (t373 == (x4_1.size : Int))) else (some false))) = some r := by rw [if_pos rfl] at H; exact H
                clear H
                have H := H1
                clear H1
                replace H := Option.bind_eq_some_iff.mp H
                obtain ⟨t377, A590, H⟩ := H
                replace H : (if t377 = true then (some (t373 == (x4_1.size : Int))) else (some false)) = some r := H
                have A59 := Aside0.mk A590
                clear A590
                by_cases c60 : t377 = true
                · subst c60
                  have H1 : (some (t373 == (x4_1.size : Int))) = some r := by rw [if_pos rfl] at H; exact H
                  clear H
                  have H := H1
                  clear H1
                  obtain rfl := Option.some.inj H
                  simp only [Option.some.injEq, Prod.mk.injEq] at H
                  obtain ⟨rfl⟩ := H
                  go_wp2_with (first | (go_at_call 19; (with_reducible refine (store_Scan.calls k2 x4_1 t372 t373 _ A56.out).mono ?_); rintro e w61 ⟨v374, rfl, ho0, hb⟩; have n0_ := Aside0.mk (Kd.R_elder' (by (with_reducible repeat (first | apply Kd.R_alloc | apply Kd.R_drewN | apply Kd.R_drew)); exact HO_5.out) (Kd.R_base ho0) hb); have n1_ := Aside0.mk (Kd.R_elder' (by (with_reducible repeat (first | apply Kd.R_alloc | apply Kd.R_drewN | apply Kd.R_drew)); exact HO_86.out) (Kd.R_base ho0) hb); have n2_ := Aside0.mk (Kd.R_lower (Kd.R_new' (Kd.R_new' ho0 (Kd.R_lt (by (with_reducible repeat (first | apply Kd.R_alloc | apply Kd.R_drewN | apply Kd.R_drew)); exact HO_5.out))) (Kd.R_lt (by (with_reducible repeat (first | apply Kd.R_alloc | apply Kd.R_drewN | apply Kd.R_drew)); exact HO_86.out))) (below_size (by repeat (first | (with_reducible first | exact HB.out | apply below_alloc | apply pw_below_drewN | apply below_drew1) | exact HB.out)))); have n3_ := Aside0.mk (below_step (by repeat (first | (with_reducible first | exact HB.out | apply below_alloc | apply pw_below_drewN | apply below_drew1) | exact HB.out)) hb); clear HO_5; clear HO_86; clear HB; have HO_5 := n0_; have HO_86 := n1_; have HO375 := n2_; have HB := n3_; clear n0_ n1_ n2_ n3_; (try clear hb); (try clear hb2); (try clear hk); (try clear hi); (try clear ho0)) | (go_at_call 15; (with_reducible refine (railplanlaw41_awake.calls k2  true _ A57.out).mono ?_); rintro e w62 ⟨rfl, hb⟩; have n0_ := Aside0.mk (Kd.R_below (by (with_reducible repeat (first | apply Kd.R_alloc | apply Kd.R_drewN | apply Kd.R_drew)); exact HO_5.out) hb); have n1_ := Aside0.mk (Kd.R_below (by (with_reducible repeat (first | apply Kd.R_alloc | apply Kd.R_drewN | apply Kd.R_drew)); exact HO_86.out) hb); have n2_ := Aside0.mk (Kd.R_below (by (with_reducible repeat (first | apply Kd.R_alloc | apply Kd.R_drewN | apply Kd.R_drew)); exact HO375.out) hb); have n3_ := Aside0.mk (below_step (by repeat (first | (with_reducible first | exact HB.out | apply below_alloc | apply pw_below_drewN | apply below_drew1) | exact HB.out)) hb); clear HO_5; clear HO_86; clear HO375; clear HB; have HO_5 := n0_; have HO_86 := n1_; have HO375 := n2_; have HB := n3_; clear n0_ n1_ n2_ n3_; (try clear hb); (try clear hb2); (try clear hk); (try clear hi); obtain ⟨Ao63, co63, eo63⟩ := Kd.R_slice HO375.out; subst eo63) | (go_at_call 21; (with_reducible refine (api_Version.calls k2 _ _ t372 _ _ x5_1 true _ ?side1 ?side2 ?side3 ?side4 A59.out).mono ?_); (case side1 => repeat (first | exact (Kd.R_reads' HO375.out).2.2 | (with_reducible refine Kd.C_alloc ?_ _) | (with_reducible refine Kd.C_drewN ?_ _) | (with_reducible refine Kd.C_drew ?_))); (case side2 => exact (Kd.R_reads' HO375.out).2.1); (case side3 => repeat (first | exact (Kd.R_reads' HO_5.out).2.2 | (with_reducible refine Kd.C_alloc ?_ _) | (with_reducible refine Kd.C_drewN ?_ _) | (with_reducible refine Kd.C_drew ?_))); (case side4 => exact (Kd.R_reads' HO_5.out).2.1); rintro e w' ⟨rfl, ⟨nd, rfl⟩⟩; (try first | exact ⟨rfl, _, World.drewN_drewN _ _ _⟩ | exact ⟨rfl, _, Eq.trans (World.drewN_drewN _ _ _) (congrArg (World.drewN _) (Nat.add_assoc _ _ _))⟩)))
                  repeat (go_quiet (first | (go_at_call 19; (with_reducible refine (store_Scan.calls k2 x4_1 t372 t373 _ A56.out).mono ?_); rintro e w61 ⟨v374, rfl, ho0, hb⟩; have n0_ := Aside0.mk (Kd.R_elder' (by (with_reducible repeat (first | apply Kd.R_alloc | apply Kd.R_drewN | apply Kd.R_drew)); exact HO_5.out) (Kd.R_base ho0) hb); have n1_ := Aside0.mk (Kd.R_elder' (by (with_reducible repeat (first | apply Kd.R_alloc | apply Kd.R_drewN | apply Kd.R_drew)); exact HO_86.out) (Kd.R_base ho0) hb); have n2_ := Aside0.mk (Kd.R_lower (Kd.R_new' (Kd.R_new' ho0 (Kd.R_lt (by (with_reducible repeat (first | apply Kd.R_alloc | apply Kd.R_drewN | apply Kd.R_drew)); exact HO_5.out))) (Kd.R_lt (by (with_reducible repeat (first | apply Kd.R_alloc | apply Kd.R_drewN | apply Kd.R_drew)); exact HO_86.out))) (below_size (by repeat (first | (with_reducible first | exact HB.out | apply below_alloc | apply pw_below_drewN | apply below_drew1) | exact HB.out)))); have n3_ := Aside0.mk (below_step (by repeat (first | (with_reducible first | exact HB.out | apply below_alloc | apply pw_below_drewN | apply below_drew1) | exact HB.out)) hb); clear HO_5; clear HO_86; clear HB; have HO_5 := n0_; have HO_86 := n1_; have HO375 := n2_; have HB := n3_; clear n0_ n1_ n2_ n3_; (try clear hb); (try clear hb2); (try clear hk); (try clear hi); (try clear ho0)) | (go_at_call 15; (with_reducible refine (railplanlaw41_awake.calls k2  true _ A57.out).mono ?_); rintro e w62 ⟨rfl, hb⟩; have n0_ := Aside0.mk (Kd.R_below (by (with_reducible repeat (first | apply Kd.R_alloc | apply Kd.R_drewN | apply Kd.R_drew)); exact HO_5.out) hb); have n1_ := Aside0.mk (Kd.R_below (by (with_reducible repeat (first | apply Kd.R_alloc | apply Kd.R_drewN | apply Kd.R_drew)); exact HO_86.out) hb); have n2_ := Aside0.mk (Kd.R_below (by (with_reducible repeat (first | apply Kd.R_alloc | apply Kd.R_drewN | apply Kd.R_drew)); exact HO375.out) hb); have n3_ := Aside0.mk (below_step (by repeat (first | (with_reducible first | exact HB.out | apply below_alloc | apply pw_below_drewN | apply below_drew1) | exact HB.out)) hb); clear HO_5; clear HO_86; clear HO375; clear HB; have HO_5 := n0_; have HO_86 := n1_; have HO375 := n2_; have HB := n3_; clear n0_ n1_ n2_ n3_; (try clear hb); (try clear hb2); (try clear hk); (try clear hi); obtain ⟨Ao63, co63, eo63⟩ := Kd.R_slice HO375.out; subst eo63) | (go_at_call 21; (with_reducible refine (api_Version.calls k2 _ _ t372 _ _ x5_1 true _ ?side1 ?side2 ?side3 ?side4 A59.out).mono ?_); (case side1 => repeat (first | exact (Kd.R_reads' HO375.out).2.2 | (with_reducible refine Kd.C_alloc ?_ _) | (with_reducible refine Kd.C_drewN ?_ _) | (with_reducible refine Kd.C_drew ?_))); (case side2 => exact (Kd.R_reads' HO375.out).2.1); (case side3 => repeat (first | exact (Kd.R_reads' HO_5.out).2.2 | (with_reducible refine Kd.C_alloc ?_ _) | (with_reducible refine Kd.C_drewN ?_ _) | (with_reducible refine Kd.C_drew ?_))); (case side4 => exact (Kd.R_reads' HO_5.out).2.1); rintro e w' ⟨rfl, ⟨nd, rfl⟩⟩; (try first | exact ⟨rfl, _, World.drewN_drewN _ _ _⟩ | exact ⟨rfl, _, Eq.trans (World.drewN_drewN _ _ _) (congrArg (World.drewN _) (Nat.add_assoc _ _ _))⟩))); try go_wp2_with (first | (go_at_call 19; (with_reducible refine (store_Scan.calls k2 x4_1 t372 t373 _ A56.out).mono ?_); rintro e w61 ⟨v374, rfl, ho0, hb⟩; have n0_ := Aside0.mk (Kd.R_elder' (by (with_reducible repeat (first | apply Kd.R_alloc | apply Kd.R_drewN | apply Kd.R_drew)); exact HO_5.out) (Kd.R_base ho0) hb); have n1_ := Aside0.mk (Kd.R_elder' (by (with_reducible repeat (first | apply Kd.R_alloc | apply Kd.R_drewN | apply Kd.R_drew)); exact HO_86.out) (Kd.R_base ho0) hb); have n2_ := Aside0.mk (Kd.R_lower (Kd.R_new' (Kd.R_new' ho0 (Kd.R_lt (by (with_reducible repeat (first | apply Kd.R_alloc | apply Kd.R_drewN | apply Kd.R_drew)); exact HO_5.out))) (Kd.R_lt (by (with_reducible repeat (first | apply Kd.R_alloc | apply Kd.R_drewN | apply Kd.R_drew)); exact HO_86.out))) (below_size (by repeat (first | (with_reducible first | exact HB.out | apply below_alloc | apply pw_below_drewN | apply below_drew1) | exact HB.out)))); have n3_ := Aside0.mk (below_step (by repeat (first | (with_reducible first | exact HB.out | apply below_alloc | apply pw_below_drewN | apply below_drew1) | exact HB.out)) hb); clear HO_5; clear HO_86; clear HB; have HO_5 := n0_; have HO_86 := n1_; have HO375 := n2_; have HB := n3_; clear n0_ n1_ n2_ n3_; (try clear hb); (try clear hb2); (try clear hk); (try clear hi); (try clear ho0)) | (go_at_call 15; (with_reducible refine (railplanlaw41_awake.calls k2  true _ A57.out).mono ?_); rintro e w62 ⟨rfl, hb⟩; have n0_ := Aside0.mk (Kd.R_below (by (with_reducible repeat (first | apply Kd.R_alloc | apply Kd.R_drewN | apply Kd.R_drew)); exact HO_5.out) hb); have n1_ := Aside0.mk (Kd.R_below (by (with_reducible repeat (first | apply Kd.R_alloc | apply Kd.R_drewN | apply Kd.R_drew)); exact HO_86.out) hb); have n2_ := Aside0.mk (Kd.R_below (by (with_reducible repeat (first | apply Kd.R_alloc | apply Kd.R_drewN | apply Kd.R_drew)); exact HO375.out) hb); have n3_ := Aside0.mk (below_step (by repeat (first | (with_reducible first | exact HB.out | apply below_alloc | apply pw_below_drewN | apply below_drew1) | exact HB.out)) hb); clear HO_5; clear HO_86; clear HO375; clear HB; have HO_5 := n0_; have HO_86 := n1_; have HO375 := n2_; have HB := n3_; clear n0_ n1_ n2_ n3_; (try clear hb); (try clear hb2); (try clear hk); (try clear hi); obtain ⟨Ao63, co63, eo63⟩ := Kd.R_slice HO375.out; subst eo63) | (go_at_call 21; (with_reducible refine (api_Version.calls k2 _ _ t372 _ _ x5_1 true _ ?side1 ?side2 ?side3 ?side4 A59.out).mono ?_); (case side1 => repeat (first | exact (Kd.R_reads' HO375.out).2.2 | (with_reducible refine Kd.C_alloc ?_ _) | (with_reducible refine Kd.C_drewN ?_ _) | (with_reducible refine Kd.C_drew ?_))); (case side2 => exact (Kd.R_reads' HO375.out).2.1); (case side3 => repeat (first | exact (Kd.R_reads' HO_5.out).2.2 | (with_reducible refine Kd.C_alloc ?_ _) | (with_reducible refine Kd.C_drewN ?_ _) | (with_reducible refine Kd.C_drew ?_))); (case side4 => exact (Kd.R_reads' HO_5.out).2.1); rintro e w' ⟨rfl, ⟨nd, rfl⟩⟩; (try first | exact ⟨rfl, _, World.drewN_drewN _ _ _⟩ | exact ⟨rfl, _, Eq.trans (World.drewN_drewN _ _ _) (congrArg (World.drewN _) (Nat.add_assoc _ _ _))⟩))))
                  go_ret
                  exact ⟨by first | rfl | (simp [errW_none, errW_some] <;> rfl) | (simp [*, errW_none, errW_some] <;> rfl), by repeat (first | (with_reducible first | exact HB.out | apply below_alloc | apply pw_below_drewN | apply below_drew1) | exact HB.out)⟩
                · replace c60 := Bool.eq_false_iff.mpr c60
                  subst c60
                  have H1 : (some false) = some r := by rw [if_neg (show ¬ (false = true) by decide)] at H; exact H
                  clear H
                  have H := H1
                  clear H1
                  obtain rfl := Option.some.inj H
                  exact absurd hr_.out (by decide)
              · replace c58 := Bool.eq_false_iff.mpr c58
                subst c58
                have H1 : (some false) = some r := by rw [if_neg (show ¬ (false = true) by decide)] at H; exact H
                clear H
                have H := H1
                clear H1
                obtain rfl := Option.some.inj H
                exact absurd hr_.out (by decide)

/-- THE ONE PURE STATEMENT of railplanlaw41_StoreHistory: yours. -/
def railplanlaw41_StoreHistory.Pure : Prop := ∀ (l0 : List Int), l0.length ≤ maxLen → l0.length * 8 ≤ 140737488351232 → (∀ x ∈ l0, (Lit.int .i64 x).wf = true) → ∃ k, railplanlaw41_StoreHistory.f k l0 = some true
theorem railplanlaw41_StoreHistory.walk (P : railplanlaw41_StoreHistory.Pure) (a0 : Option Addr) (len0 cap0 : Nat) (z0 : List Int) (w : World) (w0 : (a0 = none ∧ len0 = 0 ∧ cap0 = 0 ∧ z0 = []) ∨ ∃ x, a0 = some x ∧ len0 ≤ cap0 ∧ cap0 ≤ maxLen ∧ z0.length = cap0 ∧ (∀ i, i < z0.length → w.cell? (x.add i) = some (.int .i64 (z0.getD i 0))) ∧ ∀ n ∈ z0, (Lit.int .i64 n).wf = true) (y0 : len0 * 8 ≤ 140737488351232) :
    Calls Try.prog 8 #[.slice a0 len0 cap0] w fun e w' => e = .returned (.bool true) ∧ Below w.heap.size w w' := by
  obtain ⟨l0, rfl, hr0, hm0, hw0, hc0⟩ := ReadsInt.ofRowC w0
  obtain ⟨k, h⟩ := P l0 hm0 y0 hw0
  refine (railplanlaw41_StoreHistory.calls k _ _ l0 true w (Kd.C_of_reads (d := (0 : Int)) (h1 := fun _ => rfl) hr0) hc0 ⟨rfl⟩ h).mono ?_
  rintro e w' ⟨rfl, hd⟩
  exact ⟨rfl, hd⟩

end Go.Proofs.Ytolckgeffmaakaa.X
