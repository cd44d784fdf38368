/- Written by a program of this claim. Proved: each Go function named below, called with any arguments at which its Lean function answers, returns that answer; or, of a law, its given statement. -/
import Derived.Test.YtolckgeffmaakaaX0
import Derived.Test.YtolckgeffmaakaaX5
import Derived.Test.YtolckgeffmaakaaX7
import Derived.Test.YtolckgeffmaakaaX9
import Derived.Test.YtolckgeffmaakaaX10
import Derived.Test.YtolckgeffmaakaaX11
namespace Go.Proofs.Ytolckgeffmaakaa.X
open Go.RowKit Go.Proofs.YtolckgeffmaakaaW Go.Proofs.YtolckgeffmaakaaW.PrintWords Go.Proofs.YtolckgeffmaakaaW.PrintLast Go.Proofs.YtolckgeffmaakaaW.PrintMore
attribute [local go_sem] max2_int min2_int max_two min_two max_three min_three max_four min_four   -- for this text's walks alone
set_option linter.unusedVariables false
set_option linter.unusedSimpArgs false

/-! ### railplanlaw41_StoreScan: function 4 -/
def railplanlaw41_StoreScan.f (k : Nat) (a0 : ByteArray) (l1 : List Int) (a2 : Int) (a3 : Int) (a4 : Int) : Option (Bool) := (railplanlaw41_versions.f k l1).bind fun t243 => ((railplanlaw41_file.f k t243).bind fun t246 => ((railplanlaw41_damaged.f t246 a2 a3 a4).bind fun t247 => ((store_Scan.f k t246).bind fun bt248 => ((railplanref41_Scan.f k t246).bind fun bt252 => ((store_Scan.f k t247).bind fun bt256 => ((railplanref41_Scan.f k t247).bind fun bt260 => ((store_Scan.f k a0).bind fun bt264 => ((railplanref41_Scan.f k a0).bind fun bt268 => ((railplanlaw41_awake.f k).bind fun t272 => (if t272 = true then ((api_Version.f k bt248.1 bt252.1).bind fun t273 => (if t273 = true then (if bt248.2 = bt252.2 then ((api_Version.f k bt256.1 bt260.1).bind fun t274 => (if t274 = true then (if bt256.2 = bt260.2 then ((api_Version.f k bt264.1 bt268.1).bind fun t275 => (if t275 = true then (some (bt264.2 == bt268.2)) else (some false))) else (some false)) else (some false))) else (some false)) else (some false))) else (some false)))))))))))
theorem railplanlaw41_StoreScan.mono : ∀ a0 a1 a2 a3 a4 k, LeO (railplanlaw41_StoreScan.f k a0 a1 a2 a3 a4) (railplanlaw41_StoreScan.f (k + 1) a0 a1 a2 a3 a4) := by
  intro a0 a1 a2 a3 a4 k
  unfold railplanlaw41_StoreScan.f
  repeat' first
      | (with_reducible exact api_Version.mono _ _ _)
      | (with_reducible exact railplanlaw41_awake.mono _)
      | (with_reducible exact railplanlaw41_file.mono _ _)
      | (with_reducible exact railplanlaw41_versions.mono _ _)
      | (with_reducible exact railplanref41_Scan.mono _ _)
      | (with_reducible exact store_Scan.mono _ _)
      | (with_reducible exact LeO.refl _)
      | (with_reducible exact LeO.none _)
      | (with_reducible refine LeO.ite ?_ ?_)
      | (with_reducible refine LeO.bind ?_ (fun _ => ?_))
      | exact api_Version.mono _ _ _
      | exact railplanlaw41_awake.mono _
      | exact railplanlaw41_file.mono _ _
      | exact railplanlaw41_versions.mono _ _
      | exact railplanref41_Scan.mono _ _
      | exact store_Scan.mono _ _
      | exact LeO.none _
      | refine LeO.ite ?_ ?_
      | refine LeO.bind ?_ (fun _ => ?_)
set_option maxHeartbeats 8000000 in
set_option maxRecDepth 100000 in
theorem railplanlaw41_StoreScan.calls (k : Nat) (a0 : ByteArray) (A1 : Option Addr) (c1 : Nat) (l1 : List Int) (a2 : Int) (a3 : Int) (a4 : Int) (r : Bool) (w : World) (hr1 : Kd.C (Kd.int .i64) w A1 l1.length l1) (hc1 : l1.length ≤ c1) (hr_ : Aside0 (r = true)) (h : railplanlaw41_StoreScan.f k a0 l1 a2 a3 a4 = some r) :
    Calls Try.prog 4 #[.string a0, .slice A1 l1.length c1, .int .i64 a2, .int .i64 a3, .int .i64 a4] w fun e w' => e = .returned (.bool r) ∧ Below w.heap.size w w' := by
  have HR1 := Aside0.mk hr1
  have HC1 := Aside0.mk hc1
  clear hr1 hc1
  have HB := Aside0.mk (Below.refl w.heap.size w)
  have H : ((railplanlaw41_versions.f k l1).bind fun t243 => ((railplanlaw41_file.f k t243).bind fun t246 => ((railplanlaw41_damaged.f t246 a2 a3 a4).bind fun t247 => ((store_Scan.f k t246).bind fun bt248 => ((railplanref41_Scan.f k t246).bind fun bt252 => ((store_Scan.f k t247).bind fun bt256 => ((railplanref41_Scan.f k t247).bind fun bt260 => ((store_Scan.f k a0).bind fun bt264 => ((railplanref41_Scan.f k a0).bind fun bt268 => ((railplanlaw41_awake.f k).bind fun t272 => (if t272 = true then ((api_Version.f k bt248.1 bt252.1).bind fun t273 => (if t273 = true then (if bt248.2 = bt252.2 then ((api_Version.f k bt256.1 bt260.1).bind fun t274 => (if t274 = true then (if bt256.2 = bt260.2 then ((api_Version.f k bt264.1 bt268.1).bind fun t275 => (if t275 = true then (some (bt264.2 == bt268.2)) else (some false))) else (some false)) else (some false))) else (some false)) else (some false))) else (some false)))))))))))) = some r := h
  clear h
  replace H := Option.bind_eq_some_iff.mp H
  obtain ⟨t243, A60, H⟩ := H
  replace H : ((railplanlaw41_file.f k t243).bind fun t246 => ((railplanlaw41_damaged.f t246 a2 a3 a4).bind fun t247 => ((store_Scan.f k t246).bind fun bt248 => ((railplanref41_Scan.f k t246).bind fun bt252 => ((store_Scan.f k t247).bind fun bt256 => ((railplanref41_Scan.f k t247).bind fun bt260 => ((store_Scan.f k a0).bind fun bt264 => ((railplanref41_Scan.f k a0).bind fun bt268 => ((railplanlaw41_awake.f k).bind fun t272 => (if t272 = true then ((api_Version.f k bt248.1 bt252.1).bind fun t273 => (if t273 = true then (if bt248.2 = bt252.2 then ((api_Version.f k bt256.1 bt260.1).bind fun t274 => (if t274 = true then (if bt256.2 = bt260.2 then ((api_Version.f k bt264.1 bt268.1).bind fun t275 => (if t275 = true then (some (bt264.2 == bt268.2)) else (some false))) else (some false)) else (some false))) else (some false)) else (some false))) else (some false))))))))))) = some r := H
  have A6 := Aside0.mk A60
  clear A60
  replace H := Option.bind_eq_some_iff.mp H
  obtain ⟨t246, A70, H⟩ := H
  replace H : ((railplanlaw41_damaged.f t246 a2 a3 a4).bind fun t247 => ((store_Scan.f k t246).bind fun bt248 => ((railplanref41_Scan.f k t246).bind fun bt252 => ((store_Scan.f k t247).bind fun bt256 => ((railplanref41_Scan.f k t247).bind fun bt260 => ((store_Scan.f k a0).bind fun bt264 => ((railplanref41_Scan.f k a0).bind fun bt268 => ((railplanlaw41_awake.f k).bind fun t272 => (if t272 = true then ((api_Version.f k bt248.1 bt252.1).bind fun t273 => (if t273 = true then (if bt248.2 = bt252.2 then ((api_Version.f k bt256.1 bt260.1).bind fun t274 => (if t274 = true then (if bt256.2 = bt260.2 then ((api_Version.f k bt264.1 bt268.1).bind fun t275 => (if t275 = true then (some (bt264.2 == bt268.2)) else (some false))) else (some false)) else (some false))) else (some false)) else (some false))) else (some false)))))))))) = some r := H
  have A7 := Aside0.mk A70
  clear A70
  replace H := Option.bind_eq_some_iff.mp H
  obtain ⟨t247, A80, H⟩ := H
  replace H : ((store_Scan.f k t246).bind fun bt248 => ((railplanref41_Scan.f k t246).bind fun bt252 => ((store_Scan.f k t247).bind fun bt256 => ((railplanref41_Scan.f k t247).bind fun bt260 => ((store_Scan.f k a0).bind fun bt264 => ((railplanref41_Scan.f k a0).bind fun bt268 => ((railplanlaw41_awake.f k).bind fun t272 => (if t272 = true then ((api_Version.f k bt248.1 bt252.1).bind fun t273 => (if t273 = true then (if bt248.2 = bt252.2 then ((api_Version.f k bt256.1 bt260.1).bind fun t274 => (if t274 = true then (if bt256.2 = bt260.2 then ((api_Version.f k bt264.1 bt268.1).bind fun t275 => (if t275 = true then (some (bt264.2 == bt268.2)) else (some false))) else (some false)) else (some false))) else (some false)) else (some false))) else (some false))))))))) = some r := H
  have A8 := Aside0.mk A80
  clear A80
  replace H := Option.bind_eq_some_iff.mp H
  obtain ⟨⟨t248, t249⟩, A90, H⟩ := H
  replace H : ((railplanref41_Scan.f k t246).bind fun bt252 => ((store_Scan.f k t247).bind fun bt256 => ((railplanref41_Scan.f k t247).bind fun bt260 => ((store_Scan.f k a0).bind fun bt264 => ((railplanref41_Scan.f k a0).bind fun bt268 => ((railplanlaw41_awake.f k).bind fun t272 => (if t272 = true then ((api_Version.f k t248 bt252.1).bind fun t273 => (if t273 = true then (if t249 = bt252.2 then ((api_Version.f k bt256.1 bt260.1).bind fun t274 => (if t274 = true then (if bt256.2 = bt260.2 then ((api_Version.f k bt264.1 bt268.1).bind fun t275 => (if t275 = true then (some (bt264.2 == bt268.2)) else (some false))) else (some false)) else (some false))) else (some false)) else (some false))) else (some false)))))))) = some r := H
  have A9 := Aside0.mk A90
  clear A90
  replace H := Option.bind_eq_some_iff.mp H
  obtain ⟨⟨t252, t253⟩, A100, H⟩ := H
  replace H : ((store_Scan.f k t247).bind fun bt256 => ((railplanref41_Scan.f k t247).bind fun bt260 => ((store_Scan.f k a0).bind fun bt264 => ((railplanref41_Scan.f k a0).bind fun bt268 => ((railplanlaw41_awake.f k).bind fun t272 => (if t272 = true then ((api_Version.f k t248 t252).bind fun t273 => (if t273 = true then (if t249 = t253 then ((api_Version.f k bt256.1 bt260.1).bind fun t274 => (if t274 = true then (if bt256.2 = bt260.2 then ((api_Version.f k bt264.1 bt268.1).bind fun t275 => (if t275 = true then (some (bt264.2 == bt268.2)) else (some false))) else (some false)) else (some false))) else (some false)) else (some false))) else (some false))))))) = some r := H
  have A10 := Aside0.mk A100
  clear A100
  replace H := Option.bind_eq_some_iff.mp H
  obtain ⟨⟨t256, t257⟩, A110, H⟩ := H
  replace H : ((railplanref41_Scan.f k t247).bind fun bt260 => ((store_Scan.f k a0).bind fun bt264 => ((railplanref41_Scan.f k a0).bind fun bt268 => ((railplanlaw41_awake.f k).bind fun t272 => (if t272 = true then ((api_Version.f k t248 t252).bind fun t273 => (if t273 = true then (if t249 = t253 then ((api_Version.f k t256 bt260.1).bind fun t274 => (if t274 = true then (if t257 = bt260.2 then ((api_Version.f k bt264.1 bt268.1).bind fun t275 => (if t275 = true then (some (bt264.2 == bt268.2)) else (some false))) else (some false)) else (some false))) else (some false)) else (some false))) else (some false)))))) = some r := H
  have A11 := Aside0.mk A110
  clear A110
  replace H := Option.bind_eq_some_iff.mp H
  obtain ⟨⟨t260, t261⟩, A120, H⟩ := H
  replace H : ((store_Scan.f k a0).bind fun bt264 => ((railplanref41_Scan.f k a0).bind fun bt268 => ((railplanlaw41_awake.f k).bind fun t272 => (if t272 = true then ((api_Version.f k t248 t252).bind fun t273 => (if t273 = true then (if t249 = t253 then ((api_Version.f k t256 t260).bind fun t274 => (if t274 = true then (if t257 = t261 then ((api_Version.f k bt264.1 bt268.1).bind fun t275 => (if t275 = true then (some (bt264.2 == bt268.2)) else (some false))) else (some false)) else (some false))) else (some false)) else (some false))) else (some false))))) = some r := H
  have A12 := Aside0.mk A120
  clear A120
  replace H := Option.bind_eq_some_iff.mp H
  obtain ⟨⟨t264, t265⟩, A130, H⟩ := H
  replace H : ((railplanref41_Scan.f k a0).bind fun bt268 => ((railplanlaw41_awake.f k).bind fun t272 => (if t272 = true then ((api_Version.f k t248 t252).bind fun t273 => (if t273 = true then (if t249 = t253 then ((api_Version.f k t256 t260).bind fun t274 => (if t274 = true then (if t257 = t261 then ((api_Version.f k t264 bt268.1).bind fun t275 => (if t275 = true then (some (t265 == bt268.2)) else (some false))) else (some false)) else (some false))) else (some false)) else (some false))) else (some false)))) = some r := H
  have A13 := Aside0.mk A130
  clear A130
  replace H := Option.bind_eq_some_iff.mp H
  obtain ⟨⟨t268, t269⟩, A140, H⟩ := H
  replace H : ((railplanlaw41_awake.f k).bind fun t272 => (if t272 = true then ((api_Version.f k t248 t252).bind fun t273 => (if t273 = true then (if t249 = t253 then ((api_Version.f k t256 t260).bind fun t274 => (if t274 = true then (if t257 = t261 then ((api_Version.f k t264 t268).bind fun t275 => (if t275 = true then (some (t265 == t269)) else (some false))) else (some false)) else (some false))) else (some false)) else (some false))) else (some false))) = some r := H
  have A14 := Aside0.mk A140
  clear A140
  replace H := Option.bind_eq_some_iff.mp H
  obtain ⟨t272, A150, H⟩ := H
  replace H : (if t272 = true then ((api_Version.f k t248 t252).bind fun t273 => (if t273 = true then (if t249 = t253 then ((api_Version.f k t256 t260).bind fun t274 => (if t274 = true then (if t257 = t261 then ((api_Version.f k t264 t268).bind fun t275 => (if t275 = true then (some (t265 == t269)) else (some false))) else (some false)) else (some false))) else (some false)) else (some false))) else (some false)) = some r := H
  have A15 := Aside0.mk A150
  clear A150
  by_cases c16 : t272 = true
  · subst c16
    have H1 : ((api_Version.f k t248 t252).bind fun t273 => (if t273 = true then (if t249 = t253 then ((api_Version.f k t256 t260).bind fun t274 => (if t274 = true then (if t257 = t261 then ((api_Version.f k t264 t268).bind fun t275 => (if t275 = true then (some (t265 == t269)) else (some false))) else (some false)) else (some false))) else (some false)) else (some false))) = some r := by rw [if_pos rfl] at H; exact H
    clear H
    have H := H1
    clear H1
    replace H := Option.bind_eq_some_iff.mp H
    obtain ⟨t273, A170, H⟩ := H
    replace H : (if t273 = true then (if t249 = t253 then ((api_Version.f k t256 t260).bind fun t274 => (if t274 = true then (if t257 = t261 then ((api_Version.f k t264 t268).bind fun t275 => (if t275 = true then (some (t265 == t269)) else (some false))) else (some false)) else (some false))) else (some false)) else (some false)) = some r := H
    have A17 := Aside0.mk A170
    clear A170
    by_cases c18 : t273 = true
    · subst c18
      have H1 : (if t249 = t253 then ((api_Version.f k t256 t260).bind fun t274 => (if t274 = true then (if t257 = t261 then ((api_Version.f k t264 t268).bind fun t275 => (if t275 = true then (some (t265 == t269)) else (some false))) else (some false)) else (some false))) else (some false)) = some r := by rw [if_pos rfl] at H; exact H
      clear H
      have H := H1
      clear H1
      by_cases c19 : t249 = t253
      · rw [if_pos c19] at H
        have c19b0 : (t249 == t253) = true := beq_iff_eq.mpr c19
        have c19b1 : (t249 != t253) = false := bne_eq_false_iff_eq.mpr c19
        clear c19
        replace H := Option.bind_eq_some_iff.mp H
        obtain ⟨t274, A200, H⟩ := H
        replace H : (if t274 = true then (if t257 = t261 then ((api_Version.f k t264 t268).bind fun t275 => (if t275 = true then (some (t265 == t269)) else (some false))) else (some false)) else (some false)) = some r := H
        have A20 := Aside0.mk A200
        clear A200
        by_cases c21 : t274 = true
        · subst c21
          have H1 : (if t257 = t261 then ((api_Version.f k t264 t268).bind fun t275 => (if t275 = true then (some (t265 == t269)) else (some false))) else (some false)) = some r := by rw [if_pos rfl] at H; exact H
          clear H
          have H := H1
          clear H1
          by_cases c22 : t257 = t261
          · rw [if_pos c22] at H
            have c22b0 : (t257 == t261) = true := beq_iff_eq.mpr c22
            have c22b1 : (t257 != t261) = false := bne_eq_false_iff_eq.mpr c22
            clear c22
            replace H := Option.bind_eq_some_iff.mp H
            obtain ⟨t275, A230, H⟩ := H
            replace H : (if t275 = true then (some (t265 == t269)) else (some false)) = some r := H
            have A23 := Aside0.mk A230
            clear A230
            by_cases c24 : t275 = true
            · subst c24
              have H1 : (some (t265 == t269)) = some r := by rw [if_pos rfl] at H; exact H
              clear H
              have H := H1
              clear H1
              obtain rfl := Option.some.inj H
              simp only [Option.some.injEq, Prod.mk.injEq] at H
              obtain ⟨rfl⟩ := H
              go_enter Try.func4, Try.ntmps4
              go_wp2_with (first | ((with_reducible refine gate_callee (f := 17) rfl ?_); refine goesL_ (some 26) rfl rfl Try.func17 (by kernel_rfl) rfl #[.slice A1 l1.length c1] rfl (by (try simp only [List.map_toArray, List.map_cons, List.map_nil]); first | done | rfl | (simp only [List.length_drop, List.length_take]; rfl)) ?_; (with_reducible refine (railplanlaw41_versions.calls k _ _ l1 t243 _ ?side1 ?side2 A6.out).mono ?_); (case side1 => repeat (first | exact HR1.out | (with_reducible refine Kd.C_alloc ?_ _) | (with_reducible refine Kd.C_drewN ?_ _) | (with_reducible refine Kd.C_drew ?_))); (case side2 => exact HC1.out); rintro e w25 ⟨v244, rfl, ho0, hb⟩; refine ⟨_, rfl, ?_⟩; have n0_ := Aside0.mk (Kd.R_lower ho0 (below_size (by repeat (first | (with_reducible first | exact HB.out | apply below_alloc | apply pw_below_drewN | apply below_drew1) | exact HB.out)))); have n1_ := Aside0.mk (below_step (by repeat (first | (with_reducible first | exact HB.out | apply below_alloc | apply pw_below_drewN | apply below_drew1) | exact HB.out)) hb); clear HB; have HO245 := n0_; have HB := n1_; clear n0_ n1_; (try clear hb); (try clear hb2); (try clear hk); (try clear hi); (try clear ho0); obtain ⟨Ao26, co26, eo26⟩ := Kd.R_slice HO245.out; subst eo26) | ((with_reducible refine gate_callee (f := 16) rfl ?_); refine goesL_ (some 27) rfl rfl Try.func16 (by kernel_rfl) rfl #[.slice Ao26 t243.length co26] rfl (by (try simp only [List.map_toArray, List.map_cons, List.map_nil]); first | done | rfl | (simp only [List.length_drop, List.length_take]; rfl)) ?_; (with_reducible refine (railplanlaw41_file.calls k _ _ t243 t246 _ ?side1 ?side2 A7.out).mono ?_); (case side1 => repeat (first | exact (Kd.R_reads' HO245.out).2.2 | (with_reducible refine Kd.C_alloc ?_ _) | (with_reducible refine Kd.C_drewN ?_ _) | (with_reducible refine Kd.C_drew ?_))); (case side2 => exact (Kd.R_reads' HO245.out).2.1); rintro e w27 ⟨rfl, hb⟩; refine ⟨_, rfl, ?_⟩; have n0_ := Aside0.mk (Kd.R_below (by (with_reducible repeat (first | apply Kd.R_alloc | apply Kd.R_drewN | apply Kd.R_drew)); exact HO245.out) hb); have n1_ := Aside0.mk (below_step (by repeat (first | (with_reducible first | exact HB.out | apply below_alloc | apply pw_below_drewN | apply below_drew1) | exact HB.out)) hb); clear HO245; clear HB; have HO245 := n0_; have HB := n1_; clear n0_ n1_; (try clear hb); (try clear hb2); (try clear hk); (try clear hi)) | ((with_reducible refine gate_callee (f := 18) rfl ?_); refine goesL_ (some 32) rfl rfl Try.func18 (by kernel_rfl) rfl #[.string t246, .int .i64 a2, .int .i64 a3, .int .i64 a4] rfl (by (try simp only [List.map_toArray, List.map_cons, List.map_nil]); first | done | rfl | (simp only [List.length_drop, List.length_take]; rfl)) ?_; (with_reducible refine (railplanlaw41_damaged.calls t246 a2 a3 a4 t247 _ A8.out).mono ?_); rintro e w28 ⟨rfl, hb⟩; refine ⟨_, rfl, ?_⟩; have n0_ := Aside0.mk (Kd.R_below (by (with_reducible repeat (first | apply Kd.R_alloc | apply Kd.R_drewN | apply Kd.R_drew)); exact HO245.out) hb); have n1_ := Aside0.mk (below_step (by repeat (first | (with_reducible first | exact HB.out | apply below_alloc | apply pw_below_drewN | apply below_drew1) | exact HB.out)) hb); clear HO245; clear HB; have HO245 := n0_; have HB := n1_; clear n0_ n1_; (try clear hb); (try clear hb2); (try clear hk); (try clear hi)) | ((with_reducible refine gate_callee (f := 19) rfl ?_); refine goesL_ (some 35) rfl rfl Try.func19 (by kernel_rfl) rfl #[.string t246] rfl (by (try simp only [List.map_toArray, List.map_cons, List.map_nil]); first | done | rfl | (simp only [List.length_drop, List.length_take]; rfl)) ?_; (with_reducible refine (store_Scan.calls k t246 t248 t249 _ A9.out).mono ?_); rintro e w29 ⟨v250, rfl, ho0, hb⟩; refine ⟨_, rfl, ?_⟩; have n0_ := Aside0.mk (Kd.R_elder' (by (with_reducible repeat (first | apply Kd.R_alloc | apply Kd.R_drewN | apply Kd.R_drew)); exact HO245.out) (Kd.R_base ho0) hb); have n1_ := Aside0.mk (Kd.R_lower (Kd.R_new' ho0 (Kd.R_lt (by (with_reducible repeat (first | apply Kd.R_alloc | apply Kd.R_drewN | apply Kd.R_drew)); exact HO245.out))) (below_size (by repeat (first | (with_reducible first | exact HB.out | apply below_alloc | apply pw_below_drewN | apply below_drew1) | exact HB.out)))); have n2_ := Aside0.mk (below_step (by repeat (first | (with_reducible first | exact HB.out | apply below_alloc | apply pw_below_drewN | apply below_drew1) | exact HB.out)) hb); clear HO245; clear HB; have HO245 := n0_; have HO251 := n1_; have HB := n2_; clear n0_ n1_ n2_; (try clear hb); (try clear hb2); (try clear hk); (try clear hi); (try clear ho0)) | ((with_reducible refine gate_callee (f := 20) rfl ?_); refine goesL_ (some 40) rfl rfl Try.func20 (by kernel_rfl) rfl #[.string t246] rfl (by (try simp only [List.map_toArray, List.map_cons, List.map_nil]); first | done | rfl | (simp only [List.length_drop, List.length_take]; rfl)) ?_; (with_reducible refine (railplanref41_Scan.calls k t246 t252 t253 _ A10.out).mono ?_); rintro e w30 ⟨v254, rfl, ho0, hb⟩; refine ⟨_, rfl, ?_⟩; have n0_ := Aside0.mk (Kd.R_elder' (by (with_reducible repeat (first | apply Kd.R_alloc | apply Kd.R_drewN | apply Kd.R_drew)); exact HO245.out) (Kd.R_base ho0) hb); have n1_ := Aside0.mk (Kd.R_elder' (by (with_reducible repeat (first | apply Kd.R_alloc | apply Kd.R_drewN | apply Kd.R_drew)); exact HO251.out) (Kd.R_base ho0) hb); have n2_ := Aside0.mk (Kd.R_lower (Kd.R_new' (Kd.R_new' ho0 (Kd.R_lt (by (with_reducible repeat (first | apply Kd.R_alloc | apply Kd.R_drewN | apply Kd.R_drew)); exact HO245.out))) (Kd.R_lt (by (with_reducible repeat (first | apply Kd.R_alloc | apply Kd.R_drewN | apply Kd.R_drew)); exact HO251.out))) (below_size (by repeat (first | (with_reducible first | exact HB.out | apply below_alloc | apply pw_below_drewN | apply below_drew1) | exact HB.out)))); have n3_ := Aside0.mk (below_step (by repeat (first | (with_reducible first | exact HB.out | apply below_alloc | apply pw_below_drewN | apply below_drew1) | exact HB.out)) hb); clear HO245; clear HO251; clear HB; have HO245 := n0_; have HO251 := n1_; have HO255 := n2_; have HB := n3_; clear n0_ n1_ n2_ n3_; (try clear hb); (try clear hb2); (try clear hk); (try clear hi); (try clear ho0)) | ((with_reducible refine gate_callee (f := 19) rfl ?_); refine goesL_ (some 45) rfl rfl Try.func19 (by kernel_rfl) rfl #[.string t247] rfl (by (try simp only [List.map_toArray, List.map_cons, List.map_nil]); first | done | rfl | (simp only [List.length_drop, List.length_take]; rfl)) ?_; (with_reducible refine (store_Scan.calls k t247 t256 t257 _ A11.out).mono ?_); rintro e w31 ⟨v258, rfl, ho0, hb⟩; refine ⟨_, rfl, ?_⟩; have n0_ := Aside0.mk (Kd.R_elder' (by (with_reducible repeat (first | apply Kd.R_alloc | apply Kd.R_drewN | apply Kd.R_drew)); exact HO245.out) (Kd.R_base ho0) hb); have n1_ := Aside0.mk (Kd.R_elder' (by (with_reducible repeat (first | apply Kd.R_alloc | apply Kd.R_drewN | apply Kd.R_drew)); exact HO251.out) (Kd.R_base ho0) hb); have n2_ := Aside0.mk (Kd.R_elder' (by (with_reducible repeat (first | apply Kd.R_alloc | apply Kd.R_drewN | apply Kd.R_drew)); exact HO255.out) (Kd.R_base ho0) hb); have n3_ := Aside0.mk (Kd.R_lower (Kd.R_new' (Kd.R_new' (Kd.R_new' ho0 (Kd.R_lt (by (with_reducible repeat (first | apply Kd.R_alloc | apply Kd.R_drewN | apply Kd.R_drew)); exact HO245.out))) (Kd.R_lt (by (with_reducible repeat (first | apply Kd.R_alloc | apply Kd.R_drewN | apply Kd.R_drew)); exact HO251.out))) (Kd.R_lt (by (with_reducible repeat (first | apply Kd.R_alloc | apply Kd.R_drewN | apply Kd.R_drew)); exact HO255.out))) (below_size (by repeat (first | (with_reducible first | exact HB.out | apply below_alloc | apply pw_below_drewN | apply below_drew1) | exact HB.out)))); have n4_ := Aside0.mk (below_step (by repeat (first | (with_reducible first | exact HB.out | apply below_alloc | apply pw_below_drewN | apply below_drew1) | exact HB.out)) hb); clear HO245; clear HO251; clear HO255; clear HB; have HO245 := n0_; have HO251 := n1_; have HO255 := n2_; have HO259 := n3_; have HB := n4_; clear n0_ n1_ n2_ n3_ n4_; (try clear hb); (try clear hb2); (try clear hk); (try clear hi); (try clear ho0)) | ((with_reducible refine gate_callee (f := 20) rfl ?_); refine goesL_ (some 50) rfl rfl Try.func20 (by kernel_rfl) rfl #[.string t247] rfl (by (try simp only [List.map_toArray, List.map_cons, List.map_nil]); first | done | rfl | (simp only [List.length_drop, List.length_take]; rfl)) ?_; (with_reducible refine (railplanref41_Scan.calls k t247 t260 t261 _ A12.out).mono ?_); rintro e w32 ⟨v262, rfl, ho0, hb⟩; refine ⟨_, rfl, ?_⟩; have n0_ := Aside0.mk (Kd.R_elder' (by (with_reducible repeat (first | apply Kd.R_alloc | apply Kd.R_drewN | apply Kd.R_drew)); exact HO245.out) (Kd.R_base ho0) hb); have n1_ := Aside0.mk (Kd.R_elder' (by (with_reducible repeat (first | apply Kd.R_alloc | apply Kd.R_drewN | apply Kd.R_drew)); exact HO251.out) (Kd.R_base ho0) hb); have n2_ := Aside0.mk (Kd.R_elder' (by (with_reducible repeat (first | apply Kd.R_alloc | apply Kd.R_drewN | apply Kd.R_drew)); exact HO255.out) (Kd.R_base ho0) hb); have n3_ := Aside0.mk (Kd.R_elder' (by (with_reducible repeat (first | apply Kd.R_alloc | apply Kd.R_drewN | apply Kd.R_drew)); exact HO259.out) (Kd.R_base ho0) hb); have n4_ := Aside0.mk (Kd.R_lower (Kd.R_new' (Kd.R_new' (Kd.R_new' (Kd.R_new' ho0 (Kd.R_lt (by (with_reducible repeat (first | apply Kd.R_alloc | apply Kd.R_drewN | apply Kd.R_drew)); exact HO245.out))) (Kd.R_lt (by (with_reducible repeat (first | apply Kd.R_alloc | apply Kd.R_drewN | apply Kd.R_drew)); exact HO251.out))) (Kd.R_lt (by (with_reducible repeat (first | apply Kd.R_alloc | apply Kd.R_drewN | apply Kd.R_drew)); exact HO255.out))) (Kd.R_lt (by (with_reducible repeat (first | apply Kd.R_alloc | apply Kd.R_drewN | apply Kd.R_drew)); exact HO259.out))) (below_size (by repeat (first | (with_reducible first | exact HB.out | apply below_alloc | apply pw_below_drewN | apply below_drew1) | exact HB.out)))); have n5_ := Aside0.mk (below_step (by repeat (first | (with_reducible first | exact HB.out | apply below_alloc | apply pw_below_drewN | apply below_drew1) | exact HB.out)) hb); clear HO245; clear HO251; clear HO255; clear HO259; clear HB; have HO245 := n0_; have HO251 := n1_; have HO255 := n2_; have HO259 := n3_; have HO263 := n4_; have HB := n5_; clear n0_ n1_ n2_ n3_ n4_ n5_; (try clear hb); (try clear hb2); (try clear hk); (try clear hi); (try clear ho0)) | ((with_reducible refine gate_callee (f := 19) rfl ?_); refine goesL_ (some 55) rfl rfl Try.func19 (by kernel_rfl) rfl #[.string a0] rfl (by (try simp only [List.map_toArray, List.map_cons, List.map_nil]); first | done | rfl | (simp only [List.length_drop, List.length_take]; rfl)) ?_; (with_reducible refine (store_Scan.calls k a0 t264 t265 _ A13.out).mono ?_); rintro e w33 ⟨v266, rfl, ho0, hb⟩; refine ⟨_, rfl, ?_⟩; have n0_ := Aside0.mk (Kd.R_elder' (by (with_reducible repeat (first | apply Kd.R_alloc | apply Kd.R_drewN | apply Kd.R_drew)); exact HO245.out) (Kd.R_base ho0) hb); have n1_ := Aside0.mk (Kd.R_elder' (by (with_reducible repeat (first | apply Kd.R_alloc | apply Kd.R_drewN | apply Kd.R_drew)); exact HO251.out) (Kd.R_base ho0) hb); have n2_ := Aside0.mk (Kd.R_elder' (by (with_reducible repeat (first | apply Kd.R_alloc | apply Kd.R_drewN | apply Kd.R_drew)); exact HO255.out) (Kd.R_base ho0) hb); have n3_ := Aside0.mk (Kd.R_elder' (by (with_reducible repeat (first | apply Kd.R_alloc | apply Kd.R_drewN | apply Kd.R_drew)); exact HO259.out) (Kd.R_base ho0) hb); have n4_ := Aside0.mk (Kd.R_elder' (by (with_reducible repeat (first | apply Kd.R_alloc | apply Kd.R_drewN | apply Kd.R_drew)); exact HO263.out) (Kd.R_base ho0) hb); have n5_ := Aside0.mk (Kd.R_lower (Kd.R_new' (Kd.R_new' (Kd.R_new' (Kd.R_new' (Kd.R_new' ho0 (Kd.R_lt (by (with_reducible repeat (first | apply Kd.R_alloc | apply Kd.R_drewN | apply Kd.R_drew)); exact HO245.out))) (Kd.R_lt (by (with_reducible repeat (first | apply Kd.R_alloc | apply Kd.R_drewN | apply Kd.R_drew)); exact HO251.out))) (Kd.R_lt (by (with_reducible repeat (first | apply Kd.R_alloc | apply Kd.R_drewN | apply Kd.R_drew)); exact HO255.out))) (Kd.R_lt (by (with_reducible repeat (first | apply Kd.R_alloc | apply Kd.R_drewN | apply Kd.R_drew)); exact HO259.out))) (Kd.R_lt (by (with_reducible repeat (first | apply Kd.R_alloc | apply Kd.R_drewN | apply Kd.R_drew)); exact HO263.out))) (below_size (by repeat (first | (with_reducible first | exact HB.out | apply below_alloc | apply pw_below_drewN | apply below_drew1) | exact HB.out)))); have n6_ := Aside0.mk (below_step (by repeat (first | (with_reducible first | exact HB.out | apply below_alloc | apply pw_below_drewN | apply below_drew1) | exact HB.out)) hb); clear HO245; clear HO251; clear HO255; clear HO259; clear HO263; clear HB; have HO245 := n0_; have HO251 := n1_; have HO255 := n2_; have HO259 := n3_; have HO263 := n4_; have HO267 := n5_; have HB := n6_; clear n0_ n1_ n2_ n3_ n4_ n5_ n6_; (try clear hb); (try clear hb2); (try clear hk); (try clear hi); (try clear ho0)) | ((with_reducible refine gate_callee (f := 20) rfl ?_); refine goesL_ (some 60) rfl rfl Try.func20 (by kernel_rfl) rfl #[.string a0] rfl (by (try simp only [List.map_toArray, List.map_cons, List.map_nil]); first | done | rfl | (simp only [List.length_drop, List.length_take]; rfl)) ?_; (with_reducible refine (railplanref41_Scan.calls k a0 t268 t269 _ A14.out).mono ?_); rintro e w34 ⟨v270, rfl, ho0, hb⟩; refine ⟨_, rfl, ?_⟩; have n0_ := Aside0.mk (Kd.R_elder' (by (with_reducible repeat (first | apply Kd.R_alloc | apply Kd.R_drewN | apply Kd.R_drew)); exact HO245.out) (Kd.R_base ho0) hb); have n1_ := Aside0.mk (Kd.R_elder' (by (with_reducible repeat (first | apply Kd.R_alloc | apply Kd.R_drewN | apply Kd.R_drew)); exact HO251.out) (Kd.R_base ho0) hb); have n2_ := Aside0.mk (Kd.R_elder' (by (with_reducible repeat (first | apply Kd.R_alloc | apply Kd.R_drewN | apply Kd.R_drew)); exact HO255.out) (Kd.R_base ho0) hb); have n3_ := Aside0.mk (Kd.R_elder' (by (with_reducible repeat (first | apply Kd.R_alloc | apply Kd.R_drewN | apply Kd.R_drew)); exact HO259.out) (Kd.R_base ho0) hb); have n4_ := Aside0.mk (Kd.R_elder' (by (with_reducible repeat (first | apply Kd.R_alloc | apply Kd.R_drewN | apply Kd.R_drew)); exact HO263.out) (Kd.R_base ho0) hb); have n5_ := Aside0.mk (Kd.R_elder' (by (with_reducible repeat (first | apply Kd.R_alloc | apply Kd.R_drewN | apply Kd.R_drew)); exact HO267.out) (Kd.R_base ho0) hb); have n6_ := Aside0.mk (Kd.R_lower (Kd.R_new' (Kd.R_new' (Kd.R_new' (Kd.R_new' (Kd.R_new' (Kd.R_new' ho0 (Kd.R_lt (by (with_reducible repeat (first | apply Kd.R_alloc | apply Kd.R_drewN | apply Kd.R_drew)); exact HO245.out))) (Kd.R_lt (by (with_reducible repeat (first | apply Kd.R_alloc | apply Kd.R_drewN | apply Kd.R_drew)); exact HO251.out))) (Kd.R_lt (by (with_reducible repeat (first | apply Kd.R_alloc | apply Kd.R_drewN | apply Kd.R_drew)); exact HO255.out))) (Kd.R_lt (by (with_reducible repeat (first | apply Kd.R_alloc | apply Kd.R_drewN | apply Kd.R_drew)); exact HO259.out))) (Kd.R_lt (by (with_reducible repeat (first | apply Kd.R_alloc | apply Kd.R_drewN | apply Kd.R_drew)); exact HO263.out))) (Kd.R_lt (by (with_reducible repeat (first | apply Kd.R_alloc | apply Kd.R_drewN | apply Kd.R_drew)); exact HO267.out))) (below_size (by repeat (first | (with_reducible first | exact HB.out | apply below_alloc | apply pw_below_drewN | apply below_drew1) | exact HB.out)))); have n7_ := Aside0.mk (below_step (by repeat (first | (with_reducible first | exact HB.out | apply below_alloc | apply pw_below_drewN | apply below_drew1) | exact HB.out)) hb); clear HO245; clear HO251; clear HO255; clear HO259; clear HO263; clear HO267; clear HB; have HO245 := n0_; have HO251 := n1_; have HO255 := n2_; have HO259 := n3_; have HO263 := n4_; have HO267 := n5_; have HO271 := n6_; have HB := n7_; clear n0_ n1_ n2_ n3_ n4_ n5_ n6_ n7_; (try clear hb); (try clear hb2); (try clear hk); (try clear hi); (try clear ho0)) | ((with_reducible refine gate_callee (f := 15) rfl ?_); refine goesL_ (some 63) rfl rfl Try.func15 (by kernel_rfl) rfl #[] rfl (by (try simp only [List.map_toArray, List.map_cons, List.map_nil]); first | done | rfl | (simp only [List.length_drop, List.length_take]; rfl)) ?_; (with_reducible refine (railplanlaw41_awake.calls k  true _ A15.out).mono ?_); rintro e w35 ⟨rfl, hb⟩; refine ⟨_, rfl, ?_⟩; have n0_ := Aside0.mk (Kd.R_below (by (with_reducible repeat (first | apply Kd.R_alloc | apply Kd.R_drewN | apply Kd.R_drew)); exact HO245.out) hb); have n1_ := Aside0.mk (Kd.R_below (by (with_reducible repeat (first | apply Kd.R_alloc | apply Kd.R_drewN | apply Kd.R_drew)); exact HO251.out) hb); have n2_ := Aside0.mk (Kd.R_below (by (with_reducible repeat (first | apply Kd.R_alloc | apply Kd.R_drewN | apply Kd.R_drew)); exact HO255.out) hb); have n3_ := Aside0.mk (Kd.R_below (by (with_reducible repeat (first | apply Kd.R_alloc | apply Kd.R_drewN | apply Kd.R_drew)); exact HO259.out) hb); have n4_ := Aside0.mk (Kd.R_below (by (with_reducible repeat (first | apply Kd.R_alloc | apply Kd.R_drewN | apply Kd.R_drew)); exact HO263.out) hb); have n5_ := Aside0.mk (Kd.R_below (by (with_reducible repeat (first | apply Kd.R_alloc | apply Kd.R_drewN | apply Kd.R_drew)); exact HO267.out) hb); have n6_ := Aside0.mk (Kd.R_below (by (with_reducible repeat (first | apply Kd.R_alloc | apply Kd.R_drewN | apply Kd.R_drew)); exact HO271.out) hb); have n7_ := Aside0.mk (below_step (by repeat (first | (with_reducible first | exact HB.out | apply below_alloc | apply pw_below_drewN | apply below_drew1) | exact HB.out)) hb); clear HO245; clear HO251; clear HO255; clear HO259; clear HO263; clear HO267; clear HO271; clear HB; have HO245 := n0_; have HO251 := n1_; have HO255 := n2_; have HO259 := n3_; have HO263 := n4_; have HO267 := n5_; have HO271 := n6_; have HB := n7_; clear n0_ n1_ n2_ n3_ n4_ n5_ n6_ n7_; (try clear hb); (try clear hb2); (try clear hk); (try clear hi); obtain ⟨Ao36, co36, eo36⟩ := Kd.R_slice HO251.out; subst eo36; obtain ⟨Ao37, co37, eo37⟩ := Kd.R_slice HO255.out; subst eo37) | (go_at_call 21; (with_reducible refine (api_Version.calls k _ _ t248 _ _ t252 true _ ?side1 ?side2 ?side3 ?side4 A17.out).mono ?_); (case side1 => repeat (first | exact (Kd.R_reads' HO251.out).2.2 | (with_reducible refine Kd.C_alloc ?_ _) | (with_reducible refine Kd.C_drewN ?_ _) | (with_reducible refine Kd.C_drew ?_))); (case side2 => exact (Kd.R_reads' HO251.out).2.1); (case side3 => repeat (first | exact (Kd.R_reads' HO255.out).2.2 | (with_reducible refine Kd.C_alloc ?_ _) | (with_reducible refine Kd.C_drewN ?_ _) | (with_reducible refine Kd.C_drew ?_))); (case side4 => exact (Kd.R_reads' HO255.out).2.1); rintro e w' ⟨rfl, ⟨nd, rfl⟩⟩; obtain ⟨Ao38, co38, eo38⟩ := Kd.R_slice HO259.out; subst eo38; obtain ⟨Ao39, co39, eo39⟩ := Kd.R_slice HO263.out; subst eo39) | (go_at_call 21; (with_reducible refine (api_Version.calls k _ _ t256 _ _ t260 true _ ?side1 ?side2 ?side3 ?side4 A20.out).mono ?_); (case side1 => repeat (first | exact (Kd.R_reads' HO259.out).2.2 | (with_reducible refine Kd.C_alloc ?_ _) | (with_reducible refine Kd.C_drewN ?_ _) | (with_reducible refine Kd.C_drew ?_))); (case side2 => exact (Kd.R_reads' HO259.out).2.1); (case side3 => repeat (first | exact (Kd.R_reads' HO263.out).2.2 | (with_reducible refine Kd.C_alloc ?_ _) | (with_reducible refine Kd.C_drewN ?_ _) | (with_reducible refine Kd.C_drew ?_))); (case side4 => exact (Kd.R_reads' HO263.out).2.1); rintro e w' ⟨rfl, ⟨nd, rfl⟩⟩; obtain ⟨Ao40, co40, eo40⟩ := Kd.R_slice HO267.out; subst eo40; obtain ⟨Ao41, co41, eo41⟩ := Kd.R_slice HO271.out; subst eo41) | (go_at_call 21; (with_reducible refine (api_Version.calls k _ _ t264 _ _ t268 true _ ?side1 ?side2 ?side3 ?side4 A23.out).mono ?_); (case side1 => repeat (first | exact (Kd.R_reads' HO267.out).2.2 | (with_reducible refine Kd.C_alloc ?_ _) | (with_reducible refine Kd.C_drewN ?_ _) | (with_reducible refine Kd.C_drew ?_))); (case side2 => exact (Kd.R_reads' HO267.out).2.1); (case side3 => repeat (first | exact (Kd.R_reads' HO271.out).2.2 | (with_reducible refine Kd.C_alloc ?_ _) | (with_reducible refine Kd.C_drewN ?_ _) | (with_reducible refine Kd.C_drew ?_))); (case side4 => exact (Kd.R_reads' HO271.out).2.1); rintro e w' ⟨rfl, ⟨nd, rfl⟩⟩))
              go_ret
              exact ⟨by first | rfl | (simp [errW_none, errW_some] <;> rfl) | (simp [*, errW_none, errW_some] <;> rfl), by repeat (first | (with_reducible first | exact HB.out | apply below_alloc | apply pw_below_drewN | apply below_drew1) | exact HB.out)⟩
            · replace c24 := Bool.eq_false_iff.mpr c24
              subst c24
              have H1 : (some false) = some r := by rw [if_neg (show ¬ (false = true) by decide)] at H; exact H
              clear H
              have H := H1
              clear H1
              obtain rfl := Option.some.inj H
              exact absurd hr_.out (by decide)
          · rw [if_neg c22] at H
            have c22b0 : (t257 == t261) = false := beq_eq_false_iff_ne.mpr c22
            have c22b1 : (t257 != t261) = true := bne_iff_ne.mpr c22
            obtain rfl := Option.some.inj H
            exact absurd hr_.out (by decide)
        · replace c21 := Bool.eq_false_iff.mpr c21
          subst c21
          have H1 : (some false) = some r := by rw [if_neg (show ¬ (false = true) by decide)] at H; exact H
          clear H
          have H := H1
          clear H1
          obtain rfl := Option.some.inj H
          exact absurd hr_.out (by decide)
      · rw [if_neg c19] at H
        have c19b0 : (t249 == t253) = false := beq_eq_false_iff_ne.mpr c19
        have c19b1 : (t249 != t253) = true := bne_iff_ne.mpr c19
        obtain rfl := Option.some.inj H
        exact absurd hr_.out (by decide)
    · replace c18 := Bool.eq_false_iff.mpr c18
      subst c18
      have H1 : (some false) = some r := by rw [if_neg (show ¬ (false = true) by decide)] at H; exact H
      clear H
      have H := H1
      clear H1
      obtain rfl := Option.some.inj H
      exact absurd hr_.out (by decide)
  · replace c16 := Bool.eq_false_iff.mpr c16
    subst c16
    have H1 : (some false) = some r := by rw [if_neg (show ¬ (false = true) by decide)] at H; exact H
    clear H
    have H := H1
    clear H1
    obtain rfl := Option.some.inj H
    exact absurd hr_.out (by decide)

/-- THE ONE PURE STATEMENT of railplanlaw41_StoreScan: yours. -/
def railplanlaw41_StoreScan.Pure : Prop := ∀ (a0 : ByteArray) (l1 : List Int) (a2 : Int) (a3 : Int) (a4 : Int), a0.size ≤ 140737488351232 → l1.length ≤ maxLen → l1.length * 8 ≤ 140737488351232 → (∀ x ∈ l1, (Lit.int .i64 x).wf = true) → (Lit.int .i64 a2).wf = true → (Lit.int .i64 a3).wf = true → (Lit.int .i64 a4).wf = true → ∃ k, railplanlaw41_StoreScan.f k a0 l1 a2 a3 a4 = some true
theorem railplanlaw41_StoreScan.walk (P : railplanlaw41_StoreScan.Pure) (a0 : ByteArray) (a1 : Option Addr) (len1 cap1 : Nat) (z1 : List Int) (a2 : Int) (a3 : Int) (a4 : Int) (w : World) (w0 : a0.size ≤ 140737488351232) (w1 : (a1 = none ∧ len1 = 0 ∧ cap1 = 0 ∧ z1 = []) ∨ ∃ x, a1 = some x ∧ len1 ≤ cap1 ∧ cap1 ≤ maxLen ∧ z1.length = cap1 ∧ (∀ i, i < z1.length → w.cell? (x.add i) = some (.int .i64 (z1.getD i 0))) ∧ ∀ n ∈ z1, (Lit.int .i64 n).wf = true) (y1 : len1 * 8 ≤ 140737488351232) (w2 : (Lit.int .i64 a2).wf = true) (w3 : (Lit.int .i64 a3).wf = true) (w4 : (Lit.int .i64 a4).wf = true) :
    Calls Try.prog 4 #[.string a0, .slice a1 len1 cap1, .int .i64 a2, .int .i64 a3, .int .i64 a4] w fun e w' => e = .returned (.bool true) ∧ Below w.heap.size w w' := by
  obtain ⟨l1, rfl, hr1, hm1, hw1, hc1⟩ := ReadsInt.ofRowC w1
  obtain ⟨k, h⟩ := P a0 l1 a2 a3 a4 w0 hm1 y1 hw1 w2 w3 w4
  refine (railplanlaw41_StoreScan.calls k a0 _ _ l1 a2 a3 a4 true w (Kd.C_of_reads (d := (0 : Int)) (h1 := fun _ => rfl) hr1) hc1 ⟨rfl⟩ h).mono ?_
  rintro e w' ⟨rfl, hd⟩
  exact ⟨rfl, hd⟩

end Go.Proofs.Ytolckgeffmaakaa.X
