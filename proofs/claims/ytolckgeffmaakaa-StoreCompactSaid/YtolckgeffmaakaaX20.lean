/- Written by a program of this claim. Proved: each Go function named below, called with any arguments at which its Lean function answers, returns that answer; or, of a law, its given statement. -/
import Derived.Test.YtolckgeffmaakaaX0
import Derived.Test.YtolckgeffmaakaaX3
import Derived.Test.YtolckgeffmaakaaX5
import Derived.Test.YtolckgeffmaakaaX7
import Derived.Test.YtolckgeffmaakaaX9
import Derived.Test.YtolckgeffmaakaaX10
import Derived.Test.YtolckgeffmaakaaX11
import Derived.Test.YtolckgeffmaakaaQCompact
namespace Go.Proofs.Ytolckgeffmaakaa.X
open Go.RowKit Go.Proofs.YtolckgeffmaakaaW Go.Proofs.YtolckgeffmaakaaW.PrintWords Go.Proofs.YtolckgeffmaakaaW.PrintLast Go.Proofs.YtolckgeffmaakaaW.PrintMore
attribute [local go_sem] max2_int min2_int max_two min_two max_three min_three max_four min_four   -- for this text's walks alone
set_option linter.unusedVariables false
set_option linter.unusedSimpArgs false

/-! ### railplanlaw41_StoreCompact: function 9 -/
def railplanlaw41_StoreCompact.f (k : Nat) (l0 : List Int) (a1 : Int) (a2 : Int) (a3 : Int) (a4 : Int) : Option (Bool) := (railplanlaw41_versions.f k l0).bind fun t378 => ((railplanlaw41_file.f k t378).bind fun t381 => ((railplanlaw41_damaged.f t381 a1 a2 a3).bind fun t382 => ((railplanref41_Scan.f k t382).bind fun bt383 => ((railplankeep_Pick.f a4 64).bind fun t387 => ((store_Compact.f k t382 (wrap64 (1 + t387))).bind fun bt388 => ((store_Scan.f k bt388.1).bind fun bt390 => ((railplanlaw41_awake.f k).bind fun t394 => (if t394 = true then (if bt388.2 = 0 then (if 0 ≤ (mx 0 (wrap64 ((bt383.1.length : Int) - (wrap64 (1 + t387))))) then (if (mx 0 (wrap64 ((bt383.1.length : Int) - (wrap64 (1 + t387))))) ≤ (bt383.1.length : Int) then ((api_Version.f k bt390.1 (bt383.1.drop ((mx 0 (wrap64 ((bt383.1.length : Int) - (wrap64 (1 + t387))))) : Int).toNat)).bind fun t399 => (if t399 = true then (some (bt390.2 == (bt388.1.size : Int))) else (some false))) else (none)) else (none)) else (some false)) else (some false)))))))))
theorem railplanlaw41_StoreCompact.mono : ∀ a0 a1 a2 a3 a4 k, LeO (railplanlaw41_StoreCompact.f k a0 a1 a2 a3 a4) (railplanlaw41_StoreCompact.f (k + 1) a0 a1 a2 a3 a4) := by
  intro a0 a1 a2 a3 a4 k
  unfold railplanlaw41_StoreCompact.f
  repeat' first
      | (with_reducible exact api_Version.mono _ _ _)
      | (with_reducible exact railplanlaw41_awake.mono _)
      | (with_reducible exact railplanlaw41_file.mono _ _)
      | (with_reducible exact railplanlaw41_versions.mono _ _)
      | (with_reducible exact railplanref41_Scan.mono _ _)
      | (with_reducible exact store_Compact.mono _ _ _)
      | (with_reducible exact store_Scan.mono _ _)
      | (with_reducible exact LeO.refl _)
      | (with_reducible exact LeO.none _)
      | (with_reducible refine LeO.ite ?_ ?_)
      | (with_reducible refine LeO.bind ?_ (fun _ => ?_))
      | exact api_Version.mono _ _ _
      | exact railplanlaw41_awake.mono _
      | exact railplanlaw41_file.mono _ _
      | exact railplanlaw41_versions.mono _ _
      | exact railplanref41_Scan.mono _ _
      | exact store_Compact.mono _ _ _
      | exact store_Scan.mono _ _
      | exact LeO.none _
      | refine LeO.ite ?_ ?_
      | refine LeO.bind ?_ (fun _ => ?_)
set_option maxHeartbeats 8000000 in
set_option maxRecDepth 100000 in
theorem railplanlaw41_StoreCompact.calls (k : Nat) (A0 : Option Addr) (c0 : Nat) (l0 : List Int) (a1 : Int) (a2 : Int) (a3 : Int) (a4 : Int) (r : Bool) (w : World) (hr0 : Kd.C (Kd.int .i64) w A0 l0.length l0) (hc0 : l0.length ≤ c0) (hr_ : Aside0 (r = true)) (h : railplanlaw41_StoreCompact.f k l0 a1 a2 a3 a4 = some r) :
    Calls Try.prog 9 #[.slice A0 l0.length c0, .int .i64 a1, .int .i64 a2, .int .i64 a3, .int .i64 a4] w fun e w' => e = .returned (.bool r) ∧ Below w.heap.size w w' := by
  have HR0 := Aside0.mk hr0
  have HC0 := Aside0.mk hc0
  clear hr0 hc0
  have HB := Aside0.mk (Below.refl w.heap.size w)
  have H : ((railplanlaw41_versions.f k l0).bind fun t378 => ((railplanlaw41_file.f k t378).bind fun t381 => ((railplanlaw41_damaged.f t381 a1 a2 a3).bind fun t382 => ((railplanref41_Scan.f k t382).bind fun bt383 => ((railplankeep_Pick.f a4 64).bind fun t387 => ((store_Compact.f k t382 (wrap64 (1 + t387))).bind fun bt388 => ((store_Scan.f k bt388.1).bind fun bt390 => ((railplanlaw41_awake.f k).bind fun t394 => (if t394 = true then (if bt388.2 = 0 then (if 0 ≤ (mx 0 (wrap64 ((bt383.1.length : Int) - (wrap64 (1 + t387))))) then (if (mx 0 (wrap64 ((bt383.1.length : Int) - (wrap64 (1 + t387))))) ≤ (bt383.1.length : Int) then ((api_Version.f k bt390.1 (bt383.1.drop ((mx 0 (wrap64 ((bt383.1.length : Int) - (wrap64 (1 + t387))))) : Int).toNat)).bind fun t399 => (if t399 = true then (some (bt390.2 == (bt388.1.size : Int))) else (some false))) else (none)) else (none)) else (some false)) else (some false)))))))))) = some r := h
  clear h
  replace H := Option.bind_eq_some_iff.mp H
  obtain ⟨t378, A60, H⟩ := H
  replace H : ((railplanlaw41_file.f k t378).bind fun t381 => ((railplanlaw41_damaged.f t381 a1 a2 a3).bind fun t382 => ((railplanref41_Scan.f k t382).bind fun bt383 => ((railplankeep_Pick.f a4 64).bind fun t387 => ((store_Compact.f k t382 (wrap64 (1 + t387))).bind fun bt388 => ((store_Scan.f k bt388.1).bind fun bt390 => ((railplanlaw41_awake.f k).bind fun t394 => (if t394 = true then (if bt388.2 = 0 then (if 0 ≤ (mx 0 (wrap64 ((bt383.1.length : Int) - (wrap64 (1 + t387))))) then (if (mx 0 (wrap64 ((bt383.1.length : Int) - (wrap64 (1 + t387))))) ≤ (bt383.1.length : Int) then ((api_Version.f k bt390.1 (bt383.1.drop ((mx 0 (wrap64 ((bt383.1.length : Int) - (wrap64 (1 + t387))))) : Int).toNat)).bind fun t399 => (if t399 = true then (some (bt390.2 == (bt388.1.size : Int))) else (some false))) else (none)) else (none)) else (some false)) else (some false))))))))) = some r := H
  have A6 := Aside0.mk A60
  clear A60
  replace H := Option.bind_eq_some_iff.mp H
  obtain ⟨t381, A70, H⟩ := H
  replace H : ((railplanlaw41_damaged.f t381 a1 a2 a3).bind fun t382 => ((railplanref41_Scan.f k t382).bind fun bt383 => ((railplankeep_Pick.f a4 64).bind fun t387 => ((store_Compact.f k t382 (wrap64 (1 + t387))).bind fun bt388 => ((store_Scan.f k bt388.1).bind fun bt390 => ((railplanlaw41_awake.f k).bind fun t394 => (if t394 = true then (if bt388.2 = 0 then (if 0 ≤ (mx 0 (wrap64 ((bt383.1.length : Int) - (wrap64 (1 + t387))))) then (if (mx 0 (wrap64 ((bt383.1.length : Int) - (wrap64 (1 + t387))))) ≤ (bt383.1.length : Int) then ((api_Version.f k bt390.1 (bt383.1.drop ((mx 0 (wrap64 ((bt383.1.length : Int) - (wrap64 (1 + t387))))) : Int).toNat)).bind fun t399 => (if t399 = true then (some (bt390.2 == (bt388.1.size : Int))) else (some false))) else (none)) else (none)) else (some false)) else (some false)))))))) = some r := H
  have A7 := Aside0.mk A70
  clear A70
  replace H := Option.bind_eq_some_iff.mp H
  obtain ⟨t382, A80, H⟩ := H
  replace H : ((railplanref41_Scan.f k t382).bind fun bt383 => ((railplankeep_Pick.f a4 64).bind fun t387 => ((store_Compact.f k t382 (wrap64 (1 + t387))).bind fun bt388 => ((store_Scan.f k bt388.1).bind fun bt390 => ((railplanlaw41_awake.f k).bind fun t394 => (if t394 = true then (if bt388.2 = 0 then (if 0 ≤ (mx 0 (wrap64 ((bt383.1.length : Int) - (wrap64 (1 + t387))))) then (if (mx 0 (wrap64 ((bt383.1.length : Int) - (wrap64 (1 + t387))))) ≤ (bt383.1.length : Int) then ((api_Version.f k bt390.1 (bt383.1.drop ((mx 0 (wrap64 ((bt383.1.length : Int) - (wrap64 (1 + t387))))) : Int).toNat)).bind fun t399 => (if t399 = true then (some (bt390.2 == (bt388.1.size : Int))) else (some false))) else (none)) else (none)) else (some false)) else (some false))))))) = some r := H
  have A8 := Aside0.mk A80
  clear A80
  replace H := Option.bind_eq_some_iff.mp H
  obtain ⟨⟨t383, t384⟩, A90, H⟩ := H
  replace H : ((railplankeep_Pick.f a4 64).bind fun t387 => ((store_Compact.f k t382 (wrap64 (1 + t387))).bind fun bt388 => ((store_Scan.f k bt388.1).bind fun bt390 => ((railplanlaw41_awake.f k).bind fun t394 => (if t394 = true then (if bt388.2 = 0 then (if 0 ≤ (mx 0 (wrap64 ((t383.length : Int) - (wrap64 (1 + t387))))) then (if (mx 0 (wrap64 ((t383.length : Int) - (wrap64 (1 + t387))))) ≤ (t383.length : Int) then ((api_Version.f k bt390.1 (t383.drop ((mx 0 (wrap64 ((t383.length : Int) - (wrap64 (1 + t387))))) : Int).toNat)).bind fun t399 => (if t399 = true then (some (bt390.2 == (bt388.1.size : Int))) else (some false))) else (none)) else (none)) else (some false)) else (some false)))))) = some r := H
  have A9 := Aside0.mk A90
  clear A90
  replace H := Option.bind_eq_some_iff.mp H
  obtain ⟨t387, A100, H⟩ := H
  replace H : ((store_Compact.f k t382 (wrap64 (1 + t387))).bind fun bt388 => ((store_Scan.f k bt388.1).bind fun bt390 => ((railplanlaw41_awake.f k).bind fun t394 => (if t394 = true then (if bt388.2 = 0 then (if 0 ≤ (mx 0 (wrap64 ((t383.length : Int) - (wrap64 (1 + t387))))) then (if (mx 0 (wrap64 ((t383.length : Int) - (wrap64 (1 + t387))))) ≤ (t383.length : Int) then ((api_Version.f k bt390.1 (t383.drop ((mx 0 (wrap64 ((t383.length : Int) - (wrap64 (1 + t387))))) : Int).toNat)).bind fun t399 => (if t399 = true then (some (bt390.2 == (bt388.1.size : Int))) else (some false))) else (none)) else (none)) else (some false)) else (some false))))) = some r := H
  have A10 := Aside0.mk A100
  clear A100
  replace H := Option.bind_eq_some_iff.mp H
  obtain ⟨⟨t388, t389⟩, A110, H⟩ := H
  replace H : ((store_Scan.f k t388).bind fun bt390 => ((railplanlaw41_awake.f k).bind fun t394 => (if t394 = true then (if t389 = 0 then (if 0 ≤ (mx 0 (wrap64 ((t383.length : Int) - (wrap64 (1 + t387))))) then (if (mx 0 (wrap64 ((t383.length : Int) - (wrap64 (1 + t387))))) ≤ (t383.length : Int) then ((api_Version.f k bt390.1 (t383.drop ((mx 0 (wrap64 ((t383.length : Int) - (wrap64 (1 + t387))))) : Int).toNat)).bind fun t399 => (if t399 = true then (some (bt390.2 == (t388.size : Int))) else (some false))) else (none)) else (none)) else (some false)) else (some false)))) = some r := H
  have A11 := Aside0.mk A110
  clear A110
  replace H := Option.bind_eq_some_iff.mp H
  obtain ⟨⟨t390, t391⟩, A120, H⟩ := H
  replace H : ((railplanlaw41_awake.f k).bind fun t394 => (if t394 = true then (if t389 = 0 then (if 0 ≤ (mx 0 (wrap64 ((t383.length : Int) - (wrap64 (1 + t387))))) then (if (mx 0 (wrap64 ((t383.length : Int) - (wrap64 (1 + t387))))) ≤ (t383.length : Int) then ((api_Version.f k t390 (t383.drop ((mx 0 (wrap64 ((t383.length : Int) - (wrap64 (1 + t387))))) : Int).toNat)).bind fun t399 => (if t399 = true then (some (t391 == (t388.size : Int))) else (some false))) else (none)) else (none)) else (some false)) else (some false))) = some r := H
  have A12 := Aside0.mk A120
  clear A120
  replace H := Option.bind_eq_some_iff.mp H
  obtain ⟨t394, A130, H⟩ := H
  replace H : (if t394 = true then (if t389 = 0 then (if 0 ≤ (mx 0 (wrap64 ((t383.length : Int) - (wrap64 (1 + t387))))) then (if (mx 0 (wrap64 ((t383.length : Int) - (wrap64 (1 + t387))))) ≤ (t383.length : Int) then ((api_Version.f k t390 (t383.drop ((mx 0 (wrap64 ((t383.length : Int) - (wrap64 (1 + t387))))) : Int).toNat)).bind fun t399 => (if t399 = true then (some (t391 == (t388.size : Int))) else (some false))) else (none)) else (none)) else (some false)) else (some false)) = some r := H
  have A13 := Aside0.mk A130
  clear A130
  by_cases c14 : t394 = true
  · subst c14
    have H1 : (if t389 = 0 then (if 0 ≤ (mx 0 (wrap64 ((t383.length : Int) - (wrap64 (1 + t387))))) then (if (mx 0 (wrap64 ((t383.length : Int) - (wrap64 (1 + t387))))) ≤ (t383.length : Int) then ((api_Version.f k t390 (t383.drop ((mx 0 (wrap64 ((t383.length : Int) - (wrap64 (1 + t387))))) : Int).toNat)).bind fun t399 => (if t399 = true then (some (t391 == (t388.size : Int))) else (some false))) else (none)) else (none)) else (some false)) = some r := by rw [if_pos rfl] at H; exact H
    clear H
    have H := H1
    clear H1
    by_cases c15 : t389 = 0
    · rw [if_pos c15] at H
      have c15b0 : (t389 == 0) = true := beq_iff_eq.mpr c15
      have c15b1 : (t389 != 0) = false := bne_eq_false_iff_eq.mpr c15
      clear c15
      obtain ⟨ji16, hji16⟩ : ∃ j_ : Int, (mx 0 (wrap64 ((t383.length : Int) - (wrap64 (1 + t387))))) = j_ := ⟨_, rfl⟩
      replace H : (if 0 ≤ (ji16) then (if (ji16) ≤ (t383.length : Int) then ((api_Version.f k t390 (t383.drop ((ji16) : Int).toNat)).bind fun t399 => (if t399 = true then (some (t391 == (t388.size : Int))) else (some false))) else (none)) else (none)) = some r := by first | (rw [hji16] at H; exact H) | (simp only [hji16] at H ⊢; exact H)
      (try rw [hji16] at A6)
      (try rw [hji16] at A7)
      (try rw [hji16] at A8)
      (try rw [hji16] at A9)
      (try rw [hji16] at A10)
      (try rw [hji16] at A11)
      (try rw [hji16] at A12)
      (try rw [hji16] at A13)
      (try (have hji16l : 0 ≤ ji16 := by (rw [← hji16]; unfold mx; (repeat' split) <;> omega)))
      (try (have hji16m : 0 ≤ ji16 := by omega))
      have hji16_ : (if 0 < (wrap64 ((t383.length : Int) - (wrap64 (1 + t387)))) then (wrap64 ((t383.length : Int) - (wrap64 (1 + t387)))) else 0) = ji16 := hji16
      by_cases c17 : 0 ≤ (ji16)
      · rw [if_pos c17] at H
        have c17b0 := eq_true c17
        have c17b1 : decide (0 ≤ (ji16)) = true := decide_eq_true c17
        clear c17
        by_cases c18 : (ji16) ≤ (t383.length : Int)
        · rw [if_pos c18] at H
          have c18b0 := eq_true c18
          have c18b1 : decide ((ji16) ≤ (t383.length : Int)) = true := decide_eq_true c18
          clear c18
          obtain ⟨y395, hy395⟩ : ∃ y_ : List (S23), y_ = (t383.drop ((ji16) : Int).toNat) := ⟨_, rfl⟩
          replace H : ((api_Version.f k t390 y395).bind fun t399 => (if t399 = true then (some (t391 == (t388.size : Int))) else (some false))) = some r := by first | (rw [hy395]; with_reducible exact H) | (have H2_ := (Option.bind_some _ _).symm.trans H; rw [hy395]; with_reducible exact H2_) | (have H2_ := (Option.bind_some _ _).symm.trans H; with_reducible exact H2_) | with_reducible exact H | (rw [hy395]; exact H) | exact H
          have Ny395 := Aside0.mk hy395
          clear hy395
          replace H := Option.bind_eq_some_iff.mp H
          obtain ⟨t399, A190, H⟩ := H
          replace H : (if t399 = true then (some (t391 == (t388.size : Int))) else (some false)) = some r := H
          have A19 := Aside0.mk A190
          clear A190
          by_cases c20 : t399 = true
          · subst c20
            have H1 : (some (t391 == (t388.size : Int))) = some r := by rw [if_pos rfl] at H; exact H
            clear H
            have H := H1
            clear H1
            obtain rfl := Option.some.inj H
            simp only [Option.some.injEq, Prod.mk.injEq] at H
            obtain ⟨rfl⟩ := H
            go_enter Try.func9, Try.ntmps9
            go_wp2_with (first | ((with_reducible refine gate_callee (f := 17) rfl ?_); refine goesL_ (some 20) rfl rfl Try.func17 (by kernel_rfl) rfl #[.slice A0 l0.length c0] rfl (by (try simp only [List.map_toArray, List.map_cons, List.map_nil]); first | done | rfl | (simp only [List.length_drop, List.length_take]; rfl)) ?_; (with_reducible refine (railplanlaw41_versions.calls k _ _ l0 t378 _ ?side1 ?side2 A6.out).mono ?_); (case side1 => repeat (first | exact HR0.out | (with_reducible refine Kd.C_alloc ?_ _) | (with_reducible refine Kd.C_drewN ?_ _) | (with_reducible refine Kd.C_drew ?_))); (case side2 => exact HC0.out); rintro e w21 ⟨v379, rfl, ho0, hb⟩; refine ⟨_, rfl, ?_⟩; have n0_ := Aside0.mk (Kd.R_lower ho0 (below_size (by repeat (first | (with_reducible first | exact HB.out | apply below_alloc | apply pw_below_drewN | apply below_drew1) | exact HB.out)))); have n1_ := Aside0.mk (below_step (by repeat (first | (with_reducible first | exact HB.out | apply below_alloc | apply pw_below_drewN | apply below_drew1) | exact HB.out)) hb); clear HB; have HO380 := n0_; have HB := n1_; clear n0_ n1_; (try clear hb); (try clear hb2); (try clear hk); (try clear hi); (try clear ho0); obtain ⟨Ao22, co22, eo22⟩ := Kd.R_slice HO380.out; subst eo22) | ((with_reducible refine gate_callee (f := 16) rfl ?_); refine goesL_ (some 21) rfl rfl Try.func16 (by kernel_rfl) rfl #[.slice Ao22 t378.length co22] rfl (by (try simp only [List.map_toArray, List.map_cons, List.map_nil]); first | done | rfl | (simp only [List.length_drop, List.length_take]; rfl)) ?_; (with_reducible refine (railplanlaw41_file.calls k _ _ t378 t381 _ ?side1 ?side2 A7.out).mono ?_); (case side1 => repeat (first | exact (Kd.R_reads' HO380.out).2.2 | (with_reducible refine Kd.C_alloc ?_ _) | (with_reducible refine Kd.C_drewN ?_ _) | (with_reducible refine Kd.C_drew ?_))); (case side2 => exact (Kd.R_reads' HO380.out).2.1); rintro e w23 ⟨rfl, hb⟩; refine ⟨_, rfl, ?_⟩; have n0_ := Aside0.mk (Kd.R_below (by (with_reducible repeat (first | apply Kd.R_alloc | apply Kd.R_drewN | apply Kd.R_drew)); exact HO380.out) hb); have n1_ := Aside0.mk (below_step (by repeat (first | (with_reducible first | exact HB.out | apply below_alloc | apply pw_below_drewN | apply below_drew1) | exact HB.out)) hb); clear HO380; clear HB; have HO380 := n0_; have HB := n1_; clear n0_ n1_; (try clear hb); (try clear hb2); (try clear hk); (try clear hi)) | ((with_reducible refine gate_callee (f := 18) rfl ?_); refine goesL_ (some 25) rfl rfl Try.func18 (by kernel_rfl) rfl #[.string t381, .int .i64 a1, .int .i64 a2, .int .i64 a3] rfl (by (try simp only [List.map_toArray, List.map_cons, List.map_nil]); first | done | rfl | (simp only [List.length_drop, List.length_take]; rfl)) ?_; (with_reducible refine (railplanlaw41_damaged.calls t381 a1 a2 a3 t382 _ A8.out).mono ?_); rintro e w24 ⟨rfl, hb⟩; refine ⟨_, rfl, ?_⟩; have n0_ := Aside0.mk (Kd.R_below (by (with_reducible repeat (first | apply Kd.R_alloc | apply Kd.R_drewN | apply Kd.R_drew)); exact HO380.out) hb); have n1_ := Aside0.mk (below_step (by repeat (first | (with_reducible first | exact HB.out | apply below_alloc | apply pw_below_drewN | apply below_drew1) | exact HB.out)) hb); clear HO380; clear HB; have HO380 := n0_; have HB := n1_; clear n0_ n1_; (try clear hb); (try clear hb2); (try clear hk); (try clear hi)) | ((with_reducible refine gate_callee (f := 20) rfl ?_); refine goesL_ (some 28) rfl rfl Try.func20 (by kernel_rfl) rfl #[.string t382] rfl (by (try simp only [List.map_toArray, List.map_cons, List.map_nil]); first | done | rfl | (simp only [List.length_drop, List.length_take]; rfl)) ?_; (with_reducible refine (railplanref41_Scan.calls k t382 t383 t384 _ A9.out).mono ?_); rintro e w25 ⟨v385, rfl, ho0, hb⟩; refine ⟨_, rfl, ?_⟩; have n0_ := Aside0.mk (Kd.R_elder' (by (with_reducible repeat (first | apply Kd.R_alloc | apply Kd.R_drewN | apply Kd.R_drew)); exact HO380.out) (Kd.R_base ho0) hb); have n1_ := Aside0.mk (Kd.R_lower (Kd.R_new' ho0 (Kd.R_lt (by (with_reducible repeat (first | apply Kd.R_alloc | apply Kd.R_drewN | apply Kd.R_drew)); exact HO380.out))) (below_size (by repeat (first | (with_reducible first | exact HB.out | apply below_alloc | apply pw_below_drewN | apply below_drew1) | exact HB.out)))); have n2_ := Aside0.mk (below_step (by repeat (first | (with_reducible first | exact HB.out | apply below_alloc | apply pw_below_drewN | apply below_drew1) | exact HB.out)) hb); clear HO380; clear HB; have HO380 := n0_; have HO386 := n1_; have HB := n2_; clear n0_ n1_ n2_; (try clear hb); (try clear hb2); (try clear hk); (try clear hi); (try clear ho0)) | ((with_reducible refine gate_callee (f := 14) rfl ?_); refine goesL_ (some 32) rfl rfl Try.func14 (by kernel_rfl) rfl #[.int .i64 a4, .int .i64 64] rfl (by (try simp only [List.map_toArray, List.map_cons, List.map_nil]); first | done | rfl | (simp only [List.length_drop, List.length_take]; rfl)) ?_; (with_reducible refine (railplankeep_Pick.calls a4 64 t387 _ A10.out).mono ?_); rintro e w' ⟨rfl, ⟨nd, rfl⟩⟩; refine ⟨_, rfl, ?_⟩) | ((with_reducible refine gate_callee (f := 25) rfl ?_); refine goesL_ (some 37) rfl rfl Try.func25 (by kernel_rfl) rfl #[.string t382, .int .i64 (wrap64 (1 + t387))] rfl (by (try simp only [List.map_toArray, List.map_cons, List.map_nil]); first | done | rfl | (simp only [List.length_drop, List.length_take]; rfl)) ?_; (with_reducible refine (store_Compact.calls k t382 (wrap64 (1 + t387)) t388 t389 _ A11.out).mono ?_); rintro e w26 ⟨rfl, hb⟩; refine ⟨_, rfl, ?_⟩; have n0_ := Aside0.mk (Kd.R_below (by (with_reducible repeat (first | apply Kd.R_alloc | apply Kd.R_drewN | apply Kd.R_drew)); exact HO380.out) hb); have n1_ := Aside0.mk (Kd.R_below (by (with_reducible repeat (first | apply Kd.R_alloc | apply Kd.R_drewN | apply Kd.R_drew)); exact HO386.out) hb); have n2_ := Aside0.mk (below_step (by repeat (first | (with_reducible first | exact HB.out | apply below_alloc | apply pw_below_drewN | apply below_drew1) | exact HB.out)) hb); clear HO380; clear HO386; clear HB; have HO380 := n0_; have HO386 := n1_; have HB := n2_; clear n0_ n1_ n2_; (try clear hb); (try clear hb2); (try clear hk); (try clear hi)) | ((with_reducible refine gate_callee (f := 19) rfl ?_); refine goesL_ (some 42) rfl rfl Try.func19 (by kernel_rfl) rfl #[.string t388] rfl (by (try simp only [List.map_toArray, List.map_cons, List.map_nil]); first | done | rfl | (simp only [List.length_drop, List.length_take]; rfl)) ?_; (with_reducible refine (store_Scan.calls k t388 t390 t391 _ A12.out).mono ?_); rintro e w27 ⟨v392, rfl, ho0, hb⟩; refine ⟨_, rfl, ?_⟩; have n0_ := Aside0.mk (Kd.R_elder' (by (with_reducible repeat (first | apply Kd.R_alloc | apply Kd.R_drewN | apply Kd.R_drew)); exact HO380.out) (Kd.R_base ho0) hb); have n1_ := Aside0.mk (Kd.R_elder' (by (with_reducible repeat (first | apply Kd.R_alloc | apply Kd.R_drewN | apply Kd.R_drew)); exact HO386.out) (Kd.R_base ho0) hb); have n2_ := Aside0.mk (Kd.R_lower (Kd.R_new' (Kd.R_new' ho0 (Kd.R_lt (by (with_reducible repeat (first | apply Kd.R_alloc | apply Kd.R_drewN | apply Kd.R_drew)); exact HO380.out))) (Kd.R_lt (by (with_reducible repeat (first | apply Kd.R_alloc | apply Kd.R_drewN | apply Kd.R_drew)); exact HO386.out))) (below_size (by repeat (first | (with_reducible first | exact HB.out | apply below_alloc | apply pw_below_drewN | apply below_drew1) | exact HB.out)))); have n3_ := Aside0.mk (below_step (by repeat (first | (with_reducible first | exact HB.out | apply below_alloc | apply pw_below_drewN | apply below_drew1) | exact HB.out)) hb); clear HO380; clear HO386; clear HB; have HO380 := n0_; have HO386 := n1_; have HO393 := n2_; have HB := n3_; clear n0_ n1_ n2_ n3_; (try clear hb); (try clear hb2); (try clear hk); (try clear hi); (try clear ho0)) | ((with_reducible refine gate_callee (f := 15) rfl ?_); refine goesL_ (some 45) rfl rfl Try.func15 (by kernel_rfl) rfl #[] rfl (by (try simp only [List.map_toArray, List.map_cons, List.map_nil]); first | done | rfl | (simp only [List.length_drop, List.length_take]; rfl)) ?_; (with_reducible refine (railplanlaw41_awake.calls k  true _ A13.out).mono ?_); rintro e w28 ⟨rfl, hb⟩; refine ⟨_, rfl, ?_⟩; have n0_ := Aside0.mk (Kd.R_below (by (with_reducible repeat (first | apply Kd.R_alloc | apply Kd.R_drewN | apply Kd.R_drew)); exact HO380.out) hb); have n1_ := Aside0.mk (Kd.R_below (by (with_reducible repeat (first | apply Kd.R_alloc | apply Kd.R_drewN | apply Kd.R_drew)); exact HO386.out) hb); have n2_ := Aside0.mk (Kd.R_below (by (with_reducible repeat (first | apply Kd.R_alloc | apply Kd.R_drewN | apply Kd.R_drew)); exact HO393.out) hb); have n3_ := Aside0.mk (below_step (by repeat (first | (with_reducible first | exact HB.out | apply below_alloc | apply pw_below_drewN | apply below_drew1) | exact HB.out)) hb); clear HO380; clear HO386; clear HO393; clear HB; have HO380 := n0_; have HO386 := n1_; have HO393 := n2_; have HB := n3_; clear n0_ n1_ n2_ n3_; (try clear hb); (try clear hb2); (try clear hk); (try clear hi); obtain ⟨Ao29, co29, eo29⟩ := Kd.R_slice HO386.out; subst eo29; have q30 : ((ji16) : Int) ≤ ((t383.length : Int) : Int) := of_decide_eq_true (by first | (with_reducible assumption) | assumption); obtain ⟨i030, hi030, _, hsz30, _⟩ := info_parts info23; have hroom30 : t383.length ≤ co29 := (Kd.R_reads' HO386.out).2.1; have hC30 : Kd.C k23 _ Ao29 t383.length t383 := (Kd.R_reads' HO386.out).2.2; have q030 : (0 : Int) ≤ ((ji16) : Int) := of_decide_eq_true (by first | (with_reducible assumption) | assumption); have hcut30 := cut_from (P := Try.prog) 32 23 .i64 Try.underlying32 hi030 2 hsz30 Ao29 t383.length co29 (ji16) q030 q30; have hr30 := Kd.C_drop (m := ((ji16) : Int).toNat) (c := co29) hC30 (by omega) hroom30; obtain ⟨A30, hA30⟩ : ∃ A1, A1 = (if co29 = ((ji16) : Int).toNat then Ao29 else (Ao29 : Option Addr).map (·.add (((ji16) : Int).toNat * 2))) := ⟨_, rfl⟩; obtain ⟨c30, hc30⟩ : ∃ c1, c1 = co29 - ((ji16) : Int).toNat := ⟨_, rfl⟩; have hy30 : y395.length = t383.length - ((ji16) : Int).toNat := (by rw [Ny395.out, List.length_drop] <;> omega); rw [show (t383).drop ((ji16) : Int).toNat = y395 from Ny395.out.symm] at hr30; replace hr30 : Kd.C k23 _ A30 y395.length y395 := (by rw [hA30]; exact hr30); rw [← hy30, ← hA30, ← hc30] at hcut30; have HR398 := Aside0.mk hr30; have HC398 := Aside0.mk (show y395.length ≤ c30 from by rw [hy30, hc30]; exact Nat.sub_le_sub_right hroom30 _); clear hr30 hC30 hroom30 hi030 hsz30 hc30; have KY30 := Aside0.mk hy30; have KA30 := Aside0.mk hA30; clear hy30 hA30; have KL30 := Aside0.mk (show ((ji16) : Int).toNat ≤ t383.length from by omega); replace q30 := eq_true q30; obtain ⟨Ao31, co31, eo31⟩ := Kd.R_slice HO393.out; subst eo31) | (go_at_call 21; (with_reducible refine (api_Version.calls k _ _ t390 _ _ y395 true _ ?side1 ?side2 ?side3 ?side4 A19.out).mono ?_); (case side1 => repeat (first | exact (Kd.R_reads' HO393.out).2.2 | (with_reducible refine Kd.C_alloc ?_ _) | (with_reducible refine Kd.C_drewN ?_ _) | (with_reducible refine Kd.C_drew ?_))); (case side2 => exact (Kd.R_reads' HO393.out).2.1); (case side3 => repeat (first | exact (by repeat (first | (with_reducible exact HR398.out) | (with_reducible refine Kd.C_alloc ?_ _) | (with_reducible refine Kd.C_drewN ?_ _) | (with_reducible refine Kd.C_drew ?_) | exact HR398.out)) | (with_reducible refine Kd.C_alloc ?_ _) | (with_reducible refine Kd.C_drewN ?_ _) | (with_reducible refine Kd.C_drew ?_))); (case side4 => exact HC398.out); rintro e w' ⟨rfl, ⟨nd, rfl⟩⟩))
            go_ret
            exact ⟨by first | rfl | (simp [errW_none, errW_some] <;> rfl) | (simp only [← hji16]; first | rfl | (simp [errW_none, errW_some] <;> rfl)) | (simp [*, errW_none, errW_some] <;> rfl), by repeat (first | (with_reducible first | exact HB.out | apply below_alloc | apply pw_below_drewN | apply below_drew1) | exact HB.out)⟩
          · replace c20 := Bool.eq_false_iff.mpr c20
            subst c20
            have H1 : (some false) = some r := by rw [if_neg (show ¬ (false = true) by decide)] at H; exact H
            clear H
            have H := H1
            clear H1
            obtain rfl := Option.some.inj H
            exact absurd hr_.out (by decide)
        · rw [if_neg c18] at H
          exact absurd H (by simp)
      · rw [if_neg c17] at H
        exact absurd H (by simp)
    · rw [if_neg c15] at H
      have c15b0 : (t389 == 0) = false := beq_eq_false_iff_ne.mpr c15
      have c15b1 : (t389 != 0) = true := bne_iff_ne.mpr c15
      obtain rfl := Option.some.inj H
      exact absurd hr_.out (by decide)
  · replace c14 := Bool.eq_false_iff.mpr c14
    subst c14
    have H1 : (some false) = some r := by rw [if_neg (show ¬ (false = true) by decide)] at H; exact H
    clear H
    have H := H1
    clear H1
    obtain rfl := Option.some.inj H
    exact absurd hr_.out (by decide)

/-- THE ONE PURE STATEMENT of railplanlaw41_StoreCompact: yours. -/
def railplanlaw41_StoreCompact.Pure : Prop := ∀ (l0 : List Int) (a1 : Int) (a2 : Int) (a3 : Int) (a4 : Int), l0.length ≤ maxLen → l0.length * 8 ≤ 140737488351232 → (∀ x ∈ l0, (Lit.int .i64 x).wf = true) → (Lit.int .i64 a1).wf = true → (Lit.int .i64 a2).wf = true → (Lit.int .i64 a3).wf = true → (Lit.int .i64 a4).wf = true → ∃ k, railplanlaw41_StoreCompact.f k l0 a1 a2 a3 a4 = some true
theorem railplanlaw41_StoreCompact.walk (P : railplanlaw41_StoreCompact.Pure) (a0 : Option Addr) (len0 cap0 : Nat) (z0 : List Int) (a1 : Int) (a2 : Int) (a3 : Int) (a4 : Int) (w : World) (w0 : (a0 = none ∧ len0 = 0 ∧ cap0 = 0 ∧ z0 = []) ∨ ∃ x, a0 = some x ∧ len0 ≤ cap0 ∧ cap0 ≤ maxLen ∧ z0.length = cap0 ∧ (∀ i, i < z0.length → w.cell? (x.add i) = some (.int .i64 (z0.getD i 0))) ∧ ∀ n ∈ z0, (Lit.int .i64 n).wf = true) (y0 : len0 * 8 ≤ 140737488351232) (w1 : (Lit.int .i64 a1).wf = true) (w2 : (Lit.int .i64 a2).wf = true) (w3 : (Lit.int .i64 a3).wf = true) (w4 : (Lit.int .i64 a4).wf = true) :
    Calls Try.prog 9 #[.slice a0 len0 cap0, .int .i64 a1, .int .i64 a2, .int .i64 a3, .int .i64 a4] w fun e w' => e = .returned (.bool true) ∧ Below w.heap.size w w' := by
  obtain ⟨l0, rfl, hr0, hm0, hw0, hc0⟩ := ReadsInt.ofRowC w0
  obtain ⟨k, h⟩ := P l0 a1 a2 a3 a4 hm0 y0 hw0 w1 w2 w3 w4
  refine (railplanlaw41_StoreCompact.calls k _ _ l0 a1 a2 a3 a4 true w (Kd.C_of_reads (d := (0 : Int)) (h1 := fun _ => rfl) hr0) hc0 ⟨rfl⟩ h).mono ?_
  rintro e w' ⟨rfl, hd⟩
  exact ⟨rfl, hd⟩

end Go.Proofs.Ytolckgeffmaakaa.X
